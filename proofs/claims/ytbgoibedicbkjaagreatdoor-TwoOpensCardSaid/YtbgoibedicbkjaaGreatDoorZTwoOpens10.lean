/- Numbers written: nums.Num and the reference's. slices.Grow of nil, sli -/
import Derived.Test.YtbgoibedicbkjaaGreatDoorZTwoOpens3
import Derived.Test.YtbgoibedicbkjaaGreatDoorZTwoOpens2
import Derived.Test.YtbgoibedicbkjaaGreatDoorZTwoOpens1
import Derived.Lib.AppendZeros
namespace Go.Proofs.YtbgoibedicbkjaaGreatDoor end Go.Proofs.YtbgoibedicbkjaaGreatDoor open Go.Proofs.YtbgoibedicbkjaaGreatDoor
open Go.Lib (hid)
set_option maxHeartbeats 2000000
set_option maxRecDepth 100000
namespace Go.Proofs.YtbgoibedicbkjaaGreatDoor.NumPut
open Go.RowKit Mem Own Canon
theorem dhZ(k:IntKind)(l:List Nat)(x:Nat):cZ k (l++ [x])=cZ k l++ [.int k (x:Nat)]:=by simp[cZ]
def nZ(x:Nat):List Nat:=if x<128 then [x]else(x % 128+128) :: nZ (x / 128)
termination_by x
decreasing_by omega
theorem feZ{x:Nat}(h:x<128):nZ x= [x]:=by rw[nZ,if_pos h]
theorem ofZ{x:Nat}(h:¬x<128):nZ x=(x % 128+128) :: nZ (x / 128):=by rw[nZ,if_neg h]
theorem ucZ(x:Nat):∀y∈nZ x,y<=255:=by
 induction x using Nat.strongRecOn with
 |_ x ih=>
  by_cases h:x<128
  ·rw[feZ h];intro y hy;simp at hy;omega
  ·rw[ofZ h]
   intro y hy
   rcases List.mem_cons.1 hy with rfl|hy
   ·omega
   ·exact ih (x / 128) (by omega) y hy
theorem cjZb:∀v:Nat,v<256->v |||128=v % 128+128:=by decide
theorem num_any(w:World)(x:Nat)(hx:x<=100000):
 Calls Tryz.prog 98 #[.int .u64 x] w fun e w'=>∃v,e= .returned v/\w'.ownsRow w.heap.size 5 1 v (nZ x).length (cZ .u8 (nZ x))/\Below w.heap.size w w':=by
 obtain⟨j0,hj0,hy0,hy1,hy2⟩:=info_parts acZ
 obtain⟨R,hR⟩:∃R,R=nZ x:=⟨_,rfl⟩
 have HR0:Hid ([]++nZ x=R):=hR.symm
 rw[<-hR]
 clear hR
 go_enter Tryz.func98,Tryz.ntmps98
 go_wp2_with fail
 go_loopw [0,3] (fun u v wr=>∃ (X k:Nat) (done:List Nat),u= .int .u64 X/\X+k<=100000/\Hid (done.length=k)/\Hid (done++nZ X=R)/\Hid (wr.ownsRow w.heap.size 5 1 v k (cZ .u8 done))/\Hid (Below w.heap.size w wr)) (fun u _ _=>(intOf u).toNat)
 case atStart=>exact⟨x,0,[],rfl,by omega,rfl,HR0.out,World.ownsRow_nil _ _ _ _,Below.refl _ _⟩
 case round=>
  obtain⟨X,k,done,rfl,hk,HL,HR,HO,HB⟩:=hrel
  clear HR0
  have zb:=HB.out.size
  by_cases h128:X<128
  ·have g1:decide ((128:Int)<=(X:Int))=false:=by simp;omega
   have g1':decide (128<=X)=false:=by simp;omega
   have c1:IntKind.u8.wrap (X:Int)=(X:Int):=by rw[IntKind.wrap_u8'];omega
   have HR2:Hid (done++ [X]=R):=by have h:=HR.out;rw[feZ h128]at h;exact h
   go_wp2_with(at_builtin;refine kZ rfl (.tmp 14) (.tmp 17) 22 rfl w.heap.size 5 j0 _ 1 1 Tryz.underlying22 hj0 hy0 hy1 hy2 rfl (by decide) _ _ _ (by rfl) (HO.out.alloc _) _ 1 1 [.int .u8 (X:Nat)] (by rfl) (Src.of_blk (g:=wr.heap.size) (Blk.made _ _ _) 1 1 1 rfl) (by intro u hu;simp at hu;rcases hu with rfl;rfl) (by unfold maxLen;omega) (by omega) (by simp;omega) ?_;intro v4 w4 hown4 hg4 hat4)
   have hown5:Hid (w4.ownsRow w.heap.size 5 1 v4 R.length (cZ .u8 R)):=by
    rw[<-HR2.out,List.length_append,HL.out,dhZ]
    exact hown4
   have hb5:Hid (Below w.heap.size w w4):=(aZ HB.out).grown hg4 (by simp;omega) (fun y hy=>(World.ownsRow.lt HO.out y hy).1)
   go_ret
   exact⟨_,rfl,hown5.out,hb5.out⟩
  ·have g1:decide ((128:Int)<=(X:Int))=true:=by simp;omega
   have g1':decide (128<=X)=true:=by simp;omega
   have c1:IntKind.u8.wrap (X:Int)=((X % 256:Nat):Int):=by rw[IntKind.wrap_u8'];omega
   have o1:bits .or .u8 ((X % 256:Nat):Int) 128=((X % 128+128:Nat):Int):=by
    rw[show(128:Int)=((128:Nat):Int) from rfl,u8_or_nat _ _ (by omega) (by omega),cjZb _ (by omega)]
    congr 1
    omega
   have HR2:Hid ((done++ [X % 128+128])++nZ (X / 128)=R):=by have h:=HR.out;rw[ofZ h128]at h;rw[List.append_assoc];exact h
   obtain⟨b,hb⟩:∃b,b=X % 128+128:=⟨_,rfl⟩
   obtain⟨a,ha⟩:∃a,a=X % 256:=⟨_,rfl⟩
   rw[<-hb]at o1 HR2
   rw[<-ha]at o1 c1
   clear hb ha
   go_wp2_with(at_builtin;refine kZ rfl (.tmp 6) (.tmp 10) 22 rfl w.heap.size 5 j0 _ 1 1 Tryz.underlying22 hj0 hy0 hy1 hy2 rfl (by decide) _ _ _ (by rfl) (HO.out.alloc _) _ 1 1 [.int .u8 (b:Nat)] (by rfl) (Src.of_blk (g:=wr.heap.size) (Blk.made _ _ _) 1 1 1 rfl) (by intro u hu;simp at hu;rcases hu with rfl;rfl) (by unfold maxLen;omega) (by omega) (by simp;omega) ?_;intro v4 w4 hown4 hg4 hat4)
   have HO5:Hid (w4.ownsRow w.heap.size 5 1 v4 (k+1) (cZ .u8 (done++ [b]))):=by rw[dhZ];exact hown4
   have hb5:Hid (Below w.heap.size w w4):=(aZ HB.out).grown hg4 (by simp;omega) (fun y hy=>(World.ownsRow.lt HO.out y hy).1)
   exact⟨⟨X / 128,k+1,done++ [b],congrArg _ (by omega),by omega,by show _=_;rw[List.length_append,HL.out];rfl,HR2.out,HO5.out,hb5.out⟩,by simp[intOf];omega⟩
end Go.Proofs.YtbgoibedicbkjaaGreatDoor.NumPut
namespace Go.Proofs.YtbgoibedicbkjaaGreatDoor.NumPut
open Go.RowKit Mem Own Canon
theorem wfZb(w:World)(n:Nat)(hn:n<=1000000):
 Calls Tryz.prog 163 #[.slice none 0 0, .int .i64 n] w fun e w'=>∃v,e= .returned v/\w'.ownsRow w.heap.size 5 1 v 0 []/\Below w.heap.size w w':=by
 obtain⟨j0,hj0,hy0,hy1,hy2⟩:=info_parts acZ
 by_cases h0:n=0
 ·subst h0
  go_enter Tryz.func163,Tryz.ntmps163
  go_wp2_with fail
  go_ret
  exact⟨_,rfl,World.ownsRow_nil _ _ _ _,Below.refl _ _⟩
 ·have g0:decide ((n:Int)<0)=false:=by simp
  have g1:decide ((0:Int)<(n:Int))=true:=by simp;omega
  have g1':decide (0<n)=true:=by simp;omega
  have s1:IntKind.i64.wrap (n:Int)=(n:Int):=IntWalk.i64_in _ (by omega)
  have s2:IntKind.i64.wrap ((n:Int)-0)=(n:Int):=by rw[IntWalk.i64_in _ (by omega)];omega
  have hr:=Lib.run_append_nil_zeros (P:=Tryz.prog) w 22 3 22 5 j0 _ .i64 .i64 Tryz.underlying22 Tryz.underlying3 hj0 hy0 n (by omega) (by omega) (by omega) (by rw[hy2];omega)
  have hG:=grownCap_le_maxLen w n 0 5 (by unfold maxLen;omega)
  have hGn:=grownCap_ge w n 0 5
  generalize grownCap w n 0 5=G at *
  go_enter Tryz.func163,Tryz.ntmps163
  go_wp2_with(at_builtin;refine Lib.wpList_append_run _ rfl (.tmp 20) (.tmp 21) 22 3 rfl _ _ (by rfl) (by rfl) _ _ hr ?_)
  go_ret
  refine⟨_,rfl,⟨by simp, .inr ⟨w.heap.size,G,_,rfl,Nat.le_refl _,heap_alloc_new w _,by omega,hG,?_,by simp⟩⟩,by(repeat(first|(with_reducible first|exact Below.refl _ _|assumption|refine Below.drew ?_|refine below_drewN ?_ _|refine aZ ?_|refine dZ (by assumption) ?_)|((with_reducible first|refine fZ ?_ ?_|refine gZ ?_ ?_|refine iZ (by assumption) ?_ ?_);(focus(first|(simp;done)|(simp;omega)|omega|(simp at *;omega))))))⟩
  simp[Builtin.zeroCells]
  omega
structure Part where
 A:Option Addr
 c:Nat
 ls:List Nat
def Part.v(p:Part):Value:= .slice p.A p.ls.length p.c
structure Part.Ok (p:Part) (w:World):Prop where
 row:Row w w.heap.size p.A p.ls.length 1 (mZ .u8 p.ls)
 nil:p.A=none->p.ls.length=0/\p.c=0
theorem Part.Ok.step{p:Part}{w w':World}(h:p.Ok w)(hb:Below w.heap.size w w'):p.Ok w':=⟨(h.row.below hb).mono hb.size,h.nil⟩
def xcZ(ps:List Part):Nat:=(ps.flatMap Part.ls).length
theorem zzZ(w:World)(g m:Nat)(ps:List Part)(hm:ps.length=m)(hmz:m<=8)(hs:xcZ ps<=1000000)(hok:∀p∈ps,p.Ok w)(hg:Blk w g 22 (ps.map Part.v).toArray):
 Calls Tryz.prog 108 #[.slice (some ⟨g,0,none⟩) m m] w fun e w'=>∃v,e= .returned v/\w'.ownsRow w.heap.size 5 1 v (ps.flatMap Part.ls).length (cZ .u8 (ps.flatMap Part.ls))/\Below w.heap.size w w':=by
 obtain⟨j0,hj0,hy0,hy1,hy2⟩:=info_parts acZ
 have HP:Hid (∀i,i<m->∃A n c ls,w.cell? ⟨g,i,none⟩=some (.slice A n c)/\List.length ls=n/\(ps.take (i+1)).flatMap Part.ls=(ps.take i).flatMap Part.ls++ls/\(∀wx,Below w.heap.size w wx->Src wx A n c 1 (cZ .u8 ls))/\((ps.take i).flatMap Part.ls).length+n<=1000000):=fun i hi=>by
  have hi':i<ps.length:=by omega
  have hp:=hok _ (List.getElem_mem hi')
  refine⟨ps[i].A,ps[i].ls.length,ps[i].c,ps[i].ls,?_,rfl,?_,fun wx hb=>ugZ (hp.step hb).row rfl hp.nil,?_⟩
  ·rw[hg.cell i]
   simp[hi',Part.v]
  ·rw[List.take_succ_eq_append_getElem hi',List.flatMap_append]
   simp
  ·have e:ps.flatMap Part.ls=(ps.take i).flatMap Part.ls++ps[i].ls++(ps.drop (i+1)).flatMap Part.ls:=by
    conv=>lhs;rw[<-List.take_append_drop i ps,List.flatMap_append,List.drop_eq_getElem_cons hi',List.flatMap_cons,<-List.append_assoc]
   unfold xcZ at hs
   rw[e]at hs
   simp at hs
   simp
   omega
 have HE:Hid ((ps.take m).flatMap Part.ls=ps.flatMap Part.ls):=by
  rw[List.take_of_length_le (by omega)]
  exact rfl
 have hgl:=hg.lt
 have H0:Hid ((ps.take 0).flatMap Part.ls= []):=by rw[List.take_zero];exact rfl
 have HSM:Hid ((ps.flatMap Part.ls).length<=1000000):=hs
 obtain⟨R,hR⟩:∃R,R=ps.flatMap Part.ls:=⟨_,rfl⟩
 rw[<-hR]at HE HSM ⊢
 obtain⟨T,hT⟩:∃T:Nat->List Nat,T=fun i=>(ps.take i).flatMap Part.ls:=⟨_,rfl⟩
 have HP2:Hid (∀i,i<m->∃A n c ls,w.cell? ⟨g,i,none⟩=some (.slice A n c)/\List.length ls=n/\T (i+1)=T i++ls/\(∀wx,Below w.heap.size w wx->Src wx A n c 1 (cZ .u8 ls))/\(T i).length+n<=1000000):=by rw[hT];exact HP
 have HE2:Hid (T m=R):=by rw[hT];exact HE
 have H02:Hid (T 0= []):=by rw[hT];exact H0
 clear HP HE H0 hR hT hok hg hs hm
 have hmi:IntKind.i64.wrap (m:Int)=(m:Int):=IntWalk.i64_in _ (by omega)
 go_enter Tryz.func108,Tryz.ntmps108
 go_wp2_with fail
 go_loopw [3,11] (fun u v wr=>∃i s:Nat,u= .int .i64 s/\v= .int .i64 i/\i<=m/\Hid (s=(T i).length)/\wr=w) (fun _ v _=>m-(intOf v).toNat)
 case atStart=>exact⟨0,0,rfl,rfl,by omega,by rw[show T 0= [] from H02.out];rfl,rfl⟩
 case round=>
  obtain⟨i,s,rfl,rfl,hi,HS,rfl⟩:=hrel
  by_cases hlt:i<m
  ·obtain⟨A,n,c,ls,hc,hn,hT,hsrc,hle⟩:=HP2.out i hlt
   rw[<-show s=(T i).length from HS.out]at hle
   have g1:decide ((i:Int)<(m:Int))=true:=by simp;omega
   have g1':decide (i<m)=true:=by simp;omega
   have y0:(0:Int)<=(i:Int):=by omega
   have y1:(i:Int)<(m:Int):=by omega
   have s1:IntKind.i64.wrap ((s:Int)+(n:Int))=((s+n:Nat):Int):=by rw[IntWalk.i64_in _ (by omega)];omega
   have s2:IntKind.i64.wrap ((i:Int)+1)=((i+1:Nat):Int):=by rw[IntWalk.i64_in _ (by omega)];omega
   have g2:decide (((s+n:Nat):Int)<0)=false:=by simp;omega
   have HS2:Hid (s+n=(T (i+1)).length):=by rw[hT,List.length_append,<-show s=(T i).length from HS.out,hn];exact rfl
   generalize s+n=s' at *
   clear hsrc hT hn HS hlt
   go_wp2_with fail
   go_roundw
   case measure=>go_light;simp[intOf];omega
   case rel=>go_light;exact⟨i+1,s',rfl,rfl,by omega,HS2.out,trivial⟩
  ·obtain rfl:i=m:=by omega
   have g1:decide ((i:Int)<(i:Int))=false:=by simp
   have g1':decide (i<i)=false:=by simp
   have hsle:s<=1000000:=by have h:=HSM.out;rw[<-show T i=R from HE2.out,<-show s=(T i).length from HS.out]at h;exact h
   obtain⟨w0,rfl⟩:∃w0:World,w0=wr:=⟨_,rfl⟩
   have DG:=hid (wfZb w0 s hsle)
   clear HS
   go_wp2_with fail
   refine DG.out.mono ?_
   rintro e w2 ⟨v2,rfl,ho2,hb2⟩
   have HO2:Hid (w2.ownsRow w0.heap.size 5 1 v2 0 (cZ .u8 [])):=ho2
   have HB2:=hid hb2
   have HGB:Hid (∀j vv,w0.cell? ⟨g,j,none⟩=some vv->w2.cell? ⟨g,j,none⟩=some vv):=fun j vv h=>(hb2.cell (p:=⟨g,j,none⟩) hgl).trans h
   clear DG ho2 hb2
   go_wp2_with fail
   go_loopw [6,27] (fun u v wx=>∃j s:Nat,v= .int .i64 j/\j<=i/\s<=1000000/\Hid (s=(T j).length)/\Hid (wx.ownsRow w0.heap.size 5 1 u s (cZ .u8 (T j)))/\Hid (Below w0.heap.size w0 wx)) (fun _ v _=>i-(intOf v).toNat)
   case atStart=>exact⟨0,0,rfl,by omega,by omega,by rw[show T 0= [] from H02.out];rfl,by rw[show T 0= [] from H02.out];exact HO2.out,HB2.out⟩
   case round=>
    obtain⟨j,s2,rfl,hj,hs2,HS,HO,HB⟩:=hrel
    clear HO2 HB2
    by_cases hlt:j<i
    ·obtain⟨A,n,c,ls,hc,hn,hT,hsrc,hle⟩:=HP2.out j hlt
     rw[<-show s2=(T j).length from HS.out]at hle
     have q1:decide ((j:Int)<(i:Int))=true:=by simp;omega
     have q1':decide (j<i)=true:=by simp;omega
     have y0:(0:Int)<=(j:Int):=by omega
     have y1:(j:Int)<(i:Int):=by omega
     have u2:IntKind.i64.wrap ((j:Int)+1)=((j+1:Nat):Int):=by rw[IntWalk.i64_in _ (by omega)];omega
     have hcx:=(HB.out.cell (p:=⟨g,j,none⟩) hgl).trans hc
     have HSRC:=hid (hsrc _ HB.out)
     have HS2:Hid (s2+n=(T (j+1)).length):=by rw[hT,List.length_append,<-show s2=(T j).length from HS.out,hn];exact rfl
     have HT:=hid hT
     have hz:=HB.out.size
     have h1n:Hid (∀u∈cZ .u8 ls,u.oneCell'=true):=fun u hu=>by
      unfold cZ at hu
      obtain⟨x,_,rfl⟩:=List.mem_map.1 hu
      rfl
     clear hsrc hT hn HS hlt hc
     go_wp2_with(at_builtin;refine kZ rfl (.tmp 31) (.tmp 32) 22 rfl w0.heap.size 5 j0 _ 1 1 Tryz.underlying22 hj0 hy0 hy1 hy2 rfl (by decide) _ _ _ (by rfl) HO.out _ _ _ _ (by rfl) HSRC.out h1n.out (by unfold maxLen;omega) (by omega) hz ?_;intro v4 w4 hown4 hg4 hat4)
     have HO5:Hid (w4.ownsRow w0.heap.size 5 1 v4 (s2+n) (cZ .u8 (T (j+1)))):=by
      rw[HT.out,show cZ .u8 (T j++ls)=cZ .u8 (T j)++cZ .u8 ls by simp[cZ]]
      exact hown4
     have HB5:Hid (Below w0.heap.size w0 w4):=HB.out.grown hg4 hz (fun y hy=>(World.ownsRow.lt HO.out y hy).1)
     exact⟨⟨j+1,s2+n,rfl,by omega,hle,HS2.out,HO5.out,HB5.out⟩,by simp[intOf];omega⟩
    ·obtain rfl:j=i:=by omega
     have q1:decide ((j:Int)<(j:Int))=false:=by simp
     have q1':decide (j<j)=false:=by simp
     go_wp2_with fail
     go_ret
     refine⟨_,rfl,?_,HB.out⟩
     have h:=HO.out
     rw[show s2=(T j).length from HS.out,show T j=R from HE2.out]at h
     exact h
theorem ffZ(w:World)(g m:Nat)(ps:List Part)(hm:ps.length=m)(hmz:m<=8)(hs:xcZ ps<=1000000)(hok:∀p∈ps,p.Ok w)(hg:Blk w g 22 (ps.map Part.v).toArray):
 Calls Tryz.prog 59 #[.slice (some ⟨g,0,none⟩) m m] w fun e w'=>∃v,e= .returned v/\w'.ownsRow w.heap.size 5 1 v (ps.flatMap Part.ls).length (cZ .u8 (ps.flatMap Part.ls))/\Below w.heap.size w w':=by
 have D:=hid (zzZ w g m ps hm hmz hs hok hg)
 clear hm hs hok hg
 go_enter Tryz.func59,Tryz.ntmps59
 go_wp2_with fail
 refine D.out.mono ?_
 rintro e w2 ⟨v,rfl,ho,hb⟩
 have HO:=hid ho
 clear ho
 go_wp2_with fail
 go_ret
 exact⟨_,rfl,HO.out,hb⟩
end Go.Proofs.YtbgoibedicbkjaaGreatDoor.NumPut
namespace Go.Proofs.YtbgoibedicbkjaaGreatDoor.Ef
open Go.Proofs.YtbgoibedicbkjaaGreatDoor.Huff (msb bytesOf)
open Go.Proofs.YtbgoibedicbkjaaGreatDoor.NumPut (nZ)
def efW(bound n:Nat):Nat:=Nat.log2 (bound / n)
def unary(n:Nat):List Bool:=List.replicate n false++ [true]
def sdZ:Nat->List Nat->List Bool
 |_,[]=> []
 |was,x :: t=>unary (x-was)++sdZ x t
def seZ(w:Nat)(ids:List Nat):List Bool:=ids.flatMap fun x=>msb (x % 2 ^ w) w w
def uhZ(w:Nat)(ids:List Nat):List Bool:=seZ w ids++sdZ 0 (ids.map (·/ 2 ^ w))
def efO(bound:Nat)(ids:List Nat):List Nat:=if ids= []then nZ 0 else nZ ids.length++bytesOf (uhZ (efW bound ids.length) ids)
theorem rjZ(n:Nat):(unary n).length=n+1:=by simp[unary]
theorem aaZb(w:Nat)(l:List Nat)(x:Nat):seZ w (l++ [x])=seZ w l++msb (x % 2 ^ w) w w:=by simp[seZ]
theorem znZ:∀ (l:List Nat) (was x:Nat),sdZ was (l++ [x])=sdZ was l++unary (x-(l.getLast?.getD was))
 | [],was,x=>by simp[sdZ]
 |y :: t,was,x=>by
  rw[List.cons_append,sdZ,znZ t y x,sdZ,List.append_assoc]
  congr 3
  cases t with
  |nil=>rfl
  |cons z s=>simp[List.getLast?_cons]
theorem wkZ{q:Nat}(h:q≠0):2 ^ Nat.log2 q<=q:=Nat.log2_self_le h
theorem ljZb(q:Nat):q<2 ^ (Nat.log2 q+1):=Nat.lt_log2_self
end Go.Proofs.YtbgoibedicbkjaaGreatDoor.Ef
namespace Go.Proofs.YtbgoibedicbkjaaGreatDoor.NumPut
open Go.RowKit Mem Own Canon
theorem dcZb(w:World)(n:Nat)(hn:n<=1000000000):
 Calls Tryz.prog 163 #[.slice none 0 0, .int .i64 n] w fun e w'=>∃v,e= .returned v/\w'.ownsRow w.heap.size 5 1 v 0 []/\Below w.heap.size w w':=by
 obtain⟨j0,hj0,hy0,hy1,hy2⟩:=info_parts acZ
 by_cases h0:n=0
 ·subst h0
  go_enter Tryz.func163,Tryz.ntmps163
  go_wp2_with fail
  go_ret
  exact⟨_,rfl,World.ownsRow_nil _ _ _ _,Below.refl _ _⟩
 ·have g0:decide ((n:Int)<0)=false:=by simp
  have g1:decide ((0:Int)<(n:Int))=true:=by simp;omega
  have g1':decide (0<n)=true:=by simp;omega
  have s1:IntKind.i64.wrap (n:Int)=(n:Int):=IntWalk.i64_in _ (by omega)
  have s2:IntKind.i64.wrap ((n:Int)-0)=(n:Int):=by rw[IntWalk.i64_in _ (by omega)];omega
  have hr:=Lib.run_append_nil_zeros (P:=Tryz.prog) w 22 3 22 5 j0 _ .i64 .i64 Tryz.underlying22 Tryz.underlying3 hj0 hy0 n (by omega) (by omega) (by omega) (by rw[hy2];omega)
  have hG:=grownCap_le_maxLen w n 0 5 (by unfold maxLen;omega)
  have hGn:=grownCap_ge w n 0 5
  generalize grownCap w n 0 5=G at *
  go_enter Tryz.func163,Tryz.ntmps163
  go_wp2_with(at_builtin;refine Lib.wpList_append_run _ rfl (.tmp 20) (.tmp 21) 22 3 rfl _ _ (by rfl) (by rfl) _ _ hr ?_)
  go_ret
  refine⟨_,rfl,⟨by simp, .inr ⟨w.heap.size,G,_,rfl,Nat.le_refl _,heap_alloc_new w _,by omega,hG,?_,by simp⟩⟩,by(repeat(first|(with_reducible first|exact Below.refl _ _|assumption|refine Below.drew ?_|refine below_drewN ?_ _|refine aZ ?_|refine dZ (by assumption) ?_)|((with_reducible first|refine fZ ?_ ?_|refine gZ ?_ ?_|refine iZ (by assumption) ?_ ?_);(focus(first|(simp;done)|(simp;omega)|omega|(simp at *;omega))))))⟩
  simp[Builtin.zeroCells]
  omega
theorem baZb(w:World)(g m mc:Nat)(ps:List Part)(hm:ps.length=m)(hmz:m<=2000000)(hs:xcZ ps<=1000000000)(hok:∀p∈ps,p.Ok w)(hgl:g<w.heap.size)(hg:∀i (h:i<ps.length),w.cell? ⟨g,i,none⟩=some ps[i].v):
 Calls Tryz.prog 108 #[.slice (some ⟨g,0,none⟩) m mc] w fun e w'=>∃v,e= .returned v/\w'.ownsRow w.heap.size 5 1 v (ps.flatMap Part.ls).length (cZ .u8 (ps.flatMap Part.ls))/\Below w.heap.size w w':=by
 obtain⟨j0,hj0,hy0,hy1,hy2⟩:=info_parts acZ
 have HP:Hid (∀i,i<m->∃A n c ls,w.cell? ⟨g,i,none⟩=some (.slice A n c)/\List.length ls=n/\(ps.take (i+1)).flatMap Part.ls=(ps.take i).flatMap Part.ls++ls/\(∀wx,Below w.heap.size w wx->Src wx A n c 1 (cZ .u8 ls))/\((ps.take i).flatMap Part.ls).length+n<=1000000000):=fun i hi=>by
  have hi':i<ps.length:=by omega
  have hp:=hok _ (List.getElem_mem hi')
  refine⟨ps[i].A,ps[i].ls.length,ps[i].c,ps[i].ls,?_,rfl,?_,fun wx hb=>ugZ (hp.step hb).row rfl hp.nil,?_⟩
  ·rw[hg i hi']
   rfl
  ·rw[List.take_succ_eq_append_getElem hi',List.flatMap_append]
   simp
  ·have e:ps.flatMap Part.ls=(ps.take i).flatMap Part.ls++ps[i].ls++(ps.drop (i+1)).flatMap Part.ls:=by
    conv=>lhs;rw[<-List.take_append_drop i ps,List.flatMap_append,List.drop_eq_getElem_cons hi',List.flatMap_cons,<-List.append_assoc]
   unfold xcZ at hs
   rw[e]at hs
   simp at hs
   simp
   omega
 have HE:Hid ((ps.take m).flatMap Part.ls=ps.flatMap Part.ls):=by
  rw[List.take_of_length_le (by omega)]
  exact rfl
 have H0:Hid ((ps.take 0).flatMap Part.ls= []):=by rw[List.take_zero];exact rfl
 have HSM:Hid ((ps.flatMap Part.ls).length<=1000000000):=hs
 obtain⟨R,hR⟩:∃R,R=ps.flatMap Part.ls:=⟨_,rfl⟩
 rw[<-hR]at HE HSM ⊢
 obtain⟨T,hT⟩:∃T:Nat->List Nat,T=fun i=>(ps.take i).flatMap Part.ls:=⟨_,rfl⟩
 have HP2:Hid (∀i,i<m->∃A n c ls,w.cell? ⟨g,i,none⟩=some (.slice A n c)/\List.length ls=n/\T (i+1)=T i++ls/\(∀wx,Below w.heap.size w wx->Src wx A n c 1 (cZ .u8 ls))/\(T i).length+n<=1000000000):=by rw[hT];exact HP
 have HE2:Hid (T m=R):=by rw[hT];exact HE
 have H02:Hid (T 0= []):=by rw[hT];exact H0
 clear HP HE H0 hR hT hok hg hs hm
 have hmi:IntKind.i64.wrap (m:Int)=(m:Int):=IntWalk.i64_in _ (by omega)
 go_enter Tryz.func108,Tryz.ntmps108
 go_wp2_with fail
 go_loopw [3,11] (fun u v wr=>∃i s:Nat,u= .int .i64 s/\v= .int .i64 i/\i<=m/\Hid (s=(T i).length)/\wr=w) (fun _ v _=>m-(intOf v).toNat)
 case atStart=>exact⟨0,0,rfl,rfl,by omega,by rw[show T 0= [] from H02.out];rfl,rfl⟩
 case round=>
  obtain⟨i,s,rfl,rfl,hi,HS,rfl⟩:=hrel
  by_cases hlt:i<m
  ·obtain⟨A,n,c,ls,hc,hn,hT,hsrc,hle⟩:=HP2.out i hlt
   rw[<-show s=(T i).length from HS.out]at hle
   have g1:decide ((i:Int)<(m:Int))=true:=by simp;omega
   have g1':decide (i<m)=true:=by simp;omega
   have y0:(0:Int)<=(i:Int):=by omega
   have y1:(i:Int)<(m:Int):=by omega
   have s1:IntKind.i64.wrap ((s:Int)+(n:Int))=((s+n:Nat):Int):=by rw[IntWalk.i64_in _ (by omega)];omega
   have s2:IntKind.i64.wrap ((i:Int)+1)=((i+1:Nat):Int):=by rw[IntWalk.i64_in _ (by omega)];omega
   have g2:decide (((s+n:Nat):Int)<0)=false:=by simp;omega
   have HS2:Hid (s+n=(T (i+1)).length):=by rw[hT,List.length_append,<-show s=(T i).length from HS.out,hn];exact rfl
   generalize s+n=s' at *
   clear hsrc hT hn HS hlt
   go_wp2_with fail
   go_roundw
   case measure=>go_light;simp[intOf];omega
   case rel=>go_light;exact⟨i+1,s',rfl,rfl,by omega,HS2.out,trivial⟩
  ·obtain rfl:i=m:=by omega
   have g1:decide ((i:Int)<(i:Int))=false:=by simp
   have g1':decide (i<i)=false:=by simp
   have hsle:s<=1000000000:=by have h:=HSM.out;rw[<-show T i=R from HE2.out,<-show s=(T i).length from HS.out]at h;exact h
   obtain⟨w0,rfl⟩:∃w0:World,w0=wr:=⟨_,rfl⟩
   have DG:=hid (dcZb w0 s hsle)
   clear HS
   go_wp2_with fail
   refine DG.out.mono ?_
   rintro e w2 ⟨v2,rfl,ho2,hb2⟩
   have HO2:Hid (w2.ownsRow w0.heap.size 5 1 v2 0 (cZ .u8 [])):=ho2
   have HB2:=hid hb2
   have HGB:Hid (∀j vv,w0.cell? ⟨g,j,none⟩=some vv->w2.cell? ⟨g,j,none⟩=some vv):=fun j vv h=>(hb2.cell (p:=⟨g,j,none⟩) hgl).trans h
   clear DG ho2 hb2
   go_wp2_with fail
   go_loopw [6,27] (fun u v wx=>∃j s:Nat,v= .int .i64 j/\j<=i/\s<=1000000000/\Hid (s=(T j).length)/\Hid (wx.ownsRow w0.heap.size 5 1 u s (cZ .u8 (T j)))/\Hid (Below w0.heap.size w0 wx)) (fun _ v _=>i-(intOf v).toNat)
   case atStart=>exact⟨0,0,rfl,by omega,by omega,by rw[show T 0= [] from H02.out];rfl,by rw[show T 0= [] from H02.out];exact HO2.out,HB2.out⟩
   case round=>
    obtain⟨j,s2,rfl,hj,hs2,HS,HO,HB⟩:=hrel
    clear HO2 HB2
    by_cases hlt:j<i
    ·obtain⟨A,n,c,ls,hc,hn,hT,hsrc,hle⟩:=HP2.out j hlt
     rw[<-show s2=(T j).length from HS.out]at hle
     have q1:decide ((j:Int)<(i:Int))=true:=by simp;omega
     have q1':decide (j<i)=true:=by simp;omega
     have y0:(0:Int)<=(j:Int):=by omega
     have y1:(j:Int)<(i:Int):=by omega
     have u2:IntKind.i64.wrap ((j:Int)+1)=((j+1:Nat):Int):=by rw[IntWalk.i64_in _ (by omega)];omega
     have hcx:=(HB.out.cell (p:=⟨g,j,none⟩) hgl).trans hc
     have HSRC:=hid (hsrc _ HB.out)
     have HS2:Hid (s2+n=(T (j+1)).length):=by rw[hT,List.length_append,<-show s2=(T j).length from HS.out,hn];exact rfl
     have HT:=hid hT
     have hz:=HB.out.size
     have h1n:Hid (∀u∈cZ .u8 ls,u.oneCell'=true):=fun u hu=>by
      unfold cZ at hu
      obtain⟨x,_,rfl⟩:=List.mem_map.1 hu
      rfl
     clear hsrc hT hn HS hlt hc
     go_wp2_with(at_builtin;refine kZ rfl (.tmp 31) (.tmp 32) 22 rfl w0.heap.size 5 j0 _ 1 1 Tryz.underlying22 hj0 hy0 hy1 hy2 rfl (by decide) _ _ _ (by rfl) HO.out _ _ _ _ (by rfl) HSRC.out h1n.out (by unfold maxLen;omega) (by omega) hz ?_;intro v4 w4 hown4 hg4 hat4)
     have HO5:Hid (w4.ownsRow w0.heap.size 5 1 v4 (s2+n) (cZ .u8 (T (j+1)))):=by
      rw[HT.out,show cZ .u8 (T j++ls)=cZ .u8 (T j)++cZ .u8 ls by simp[cZ]]
      exact hown4
     have HB5:Hid (Below w0.heap.size w0 w4):=HB.out.grown hg4 hz (fun y hy=>(World.ownsRow.lt HO.out y hy).1)
     exact⟨⟨j+1,s2+n,rfl,by omega,hle,HS2.out,HO5.out,HB5.out⟩,by simp[intOf];omega⟩
    ·obtain rfl:j=i:=by omega
     have q1:decide ((j:Int)<(j:Int))=false:=by simp
     have q1':decide (j<j)=false:=by simp
     go_wp2_with fail
     go_ret
     refine⟨_,rfl,?_,HB.out⟩
     have h:=HO.out
     rw[show s2=(T j).length from HS.out,show T j=R from HE2.out]at h
     exact h
theorem qyZ(w:World)(g m mc:Nat)(ps:List Part)(hm:ps.length=m)(hmz:m<=2000000)(hs:xcZ ps<=1000000000)(hok:∀p∈ps,p.Ok w)(hgl:g<w.heap.size)(hg:∀i (h:i<ps.length),w.cell? ⟨g,i,none⟩=some ps[i].v):
 Calls Tryz.prog 59 #[.slice (some ⟨g,0,none⟩) m mc] w fun e w'=>∃v,e= .returned v/\w'.ownsRow w.heap.size 5 1 v (ps.flatMap Part.ls).length (cZ .u8 (ps.flatMap Part.ls))/\Below w.heap.size w w':=by
 have D:=hid (baZb w g m mc ps hm hmz hs hok hgl hg)
 clear hm hs hok hg hgl
 go_enter Tryz.func59,Tryz.ntmps59
 go_wp2_with fail
 refine D.out.mono ?_
 rintro e w2 ⟨v,rfl,ho,hb⟩
 have HO:=hid ho
 clear ho
 go_wp2_with fail
 go_ret
 exact⟨_,rfl,HO.out,hb⟩
end Go.Proofs.YtbgoibedicbkjaaGreatDoor.NumPut

/- Numbers written: num -/
import Derived.Test.YtbgoibedicbkjaaGreatDoorZBodyLogs3
import Derived.Lib.AppendZeros
namespace Go.Proofs.YtbgoibedicbkjaaGreatDoor
open Go.Lib (hid)
set_option maxHeartbeats 2000000
set_option maxRecDepth 100000
namespace NumPut
open Go.RowKit Mem Own Canon
theorem Je(k:IntKind)(l:List Nat)(x:Nat):cZ k (l++ [x])=cZ k l++ [.int k (x:Nat)]:=by simp[cZ]
def pZ(x:Nat):List Nat:=if x<128 then [x]else(x % 128+128) :: pZ (x / 128)
termination_by x
decreasing_by omega
theorem FV{x:Nat}(h:x<128):pZ x= [x]:=by rw[pZ,Ab h]
theorem Hh{x:Nat}(h:¬x<128):pZ x=(x % 128+128) :: pZ (x / 128):=by rw[pZ,Aa h]
theorem EB(x:Nat):∀y∈pZ x,y<=255:=by
 induction x using Nat.strongRecOn with
 |_ x ih=>
  by_cases h:x<128
  ·rw[FV h];intro y hy;simp at hy;omega
  ·rw[Hh h];intro y hy;rcases BZ.1 hy with rfl|hy
   ·omega
   ·exact ih (x / 128) (by omega) y hy
theorem Ox:∀v:Nat,v<256->v |||128=v % 128+128:=by decide
theorem num_any(w:World)(x:Nat)(hx:x<=100000):
 Calls Tryz.prog 98 #[.int .u64 x] w fun e w'=>∃v,e= .returned v/\w'.ownsRow w.heap.size 5 1 v (pZ x).length (cZ .u8 (pZ x))/\Below w.heap.size w w':=by
 obtain⟨j0,Y,U,N,L⟩:=info_parts Cr;obtain⟨R,hR⟩:∃R,R=pZ x:=⟨_,rfl⟩;have Q:Hid ([]++pZ x=R):=hR.symm;rw[<-hR];clear hR;go_enter Tryz.func98,Tryz.ntmps98;go_wp2_with fail;go_loopw [0,3] (fun u v wr=>∃ (X k:Nat) (done:List Nat),u= .int .u64 X/\X+k<=100000/\Hid (done.length=k)/\Hid (done++pZ X=R)/\Hid (wr.ownsRow w.heap.size 5 1 v k (cZ .u8 done))/\Hid (Below w.heap.size w wr)) (fun u _ _=>(intOf u).toNat)
 case atStart=>exact⟨x,0,[],rfl,by omega,rfl,Q.out,Am _ _ _ _,Ag _ _⟩
 case round=>
  obtain⟨X,k,done,rfl,hk,HL,HR,HO,HB⟩:=hrel;clear Q;have zb:=HB.out.size;by_cases z:X<128
  ·have g1:decide ((128:Int)<=(X:Int))=false:=(by simp;omega);have aa:decide (128<=X)=false:=(by simp;omega);have c1:IntKind.u8.wrap (X:Int)=(X:Int):=(by rw[Gs];omega);have j:Hid (done++ [X]=R):=(by have h:=HR.out;rw[FV z]at h;exact h);go_wp2_with(at_builtin;refine gZ rfl (.tmp 14) (.tmp 17) 22 rfl w.heap.size 5 j0 _ 1 1 Tryz.underlying22 Y U N L rfl (by decide) _ _ _ (by rfl) (HO.out.alloc _) _ 1 1 [.int .u8 (X:Nat)] (by rfl) (Src.of_blk (g:=wr.heap.size) (Blk.made _ _ _) 1 1 1 rfl) (by intro u hu;simp at hu;rcases hu with rfl;rfl) (by unfold maxLen;omega) (by omega) (by simp;omega) ?_;intro v4 w4 i J M);have G:Hid (w4.ownsRow w.heap.size 5 1 v4 R.length (cZ .u8 R)):=(by rw[<-j.out,Ai,HL.out,Je];exact i);have E:Hid (Below w.heap.size w w4):=(bZ HB.out).grown J (by simp;omega) (fun y hy=>(Ae HO.out y hy).1);go_ret;exact⟨_,rfl,G.out,E.out⟩
  ·have g1:decide ((128:Int)<=(X:Int))=true:=(by simp;omega);have aa:decide (128<=X)=true:=(by simp;omega);have c1:IntKind.u8.wrap (X:Int)=((X % 256:Nat):Int):=(by rw[Gs];omega);have o1:bits .or .u8 ((X % 256:Nat):Int) 128=((X % 128+128:Nat):Int):=(by rw[show(128:Int)=((128:Nat):Int) from rfl,u8_or_nat _ _ (by omega) (by omega),Ox _ (by omega)];congr 1;omega);have j:Hid ((done++ [X % 128+128])++pZ (X / 128)=R):=(by have h:=HR.out;rw[Hh z]at h;rw[EX];exact h);obtain⟨b,hb⟩:∃b,b=X % 128+128:=⟨_,rfl⟩;obtain⟨a,ha⟩:∃a,a=X % 256:=⟨_,rfl⟩;rw[<-hb]at o1 j;rw[<-ha]at o1 c1;clear hb ha;go_wp2_with(at_builtin;refine gZ rfl (.tmp 6) (.tmp 10) 22 rfl w.heap.size 5 j0 _ 1 1 Tryz.underlying22 Y U N L rfl (by decide) _ _ _ (by rfl) (HO.out.alloc _) _ 1 1 [.int .u8 (b:Nat)] (by rfl) (Src.of_blk (g:=wr.heap.size) (Blk.made _ _ _) 1 1 1 rfl) (by intro u hu;simp at hu;rcases hu with rfl;rfl) (by unfold maxLen;omega) (by omega) (by simp;omega) ?_;intro v4 w4 i J M);have Z:Hid (w4.ownsRow w.heap.size 5 1 v4 (k+1) (cZ .u8 (done++ [b]))):=(by rw[Je];exact i);have E:Hid (Below w.heap.size w w4):=(bZ HB.out).grown J (by simp;omega) (fun y hy=>(Ae HO.out y hy).1);exact⟨⟨X / 128,k+1,done++ [b],AJ _ (by omega),by omega,by show _=_;rw[Ai,HL.out];rfl,j.out,Z.out,E.out⟩,by simp[intOf];omega⟩
end NumPut
namespace NumPut
open Go.RowKit Mem Own Canon
theorem WK(w:World)(n:Nat)(hn:n<=1000000):
 Calls Tryz.prog 163 #[.slice none 0 0, .int .i64 n] w fun e w'=>∃v,e= .returned v/\w'.ownsRow w.heap.size 5 1 v 0 []/\Below w.heap.size w w':=by
 obtain⟨j0,i,j,z,h⟩:=info_parts Cr;by_cases h0:n=0
 ·subst h0;go_enter Tryz.func163,Tryz.ntmps163;go_wp2_with fail;go_ret;exact⟨_,rfl,Am _ _ _ _,Ag _ _⟩
 ·have g0:decide ((n:Int)<0)=false:=by simp
  have g1:decide ((0:Int)<(n:Int))=true:=by simp;omega
  have y:decide (0<n)=true:=by simp;omega
  have s1:IntKind.i64.wrap (n:Int)=(n:Int):=Ak _ (by omega);have s2:IntKind.i64.wrap ((n:Int)-0)=(n:Int):=by rw[Ak _ (by omega)];omega
  have hr:=Lib.run_append_nil_zeros (P:=Tryz.prog) w 22 3 22 5 j0 _ .i64 .i64 Tryz.underlying22 Tryz.underlying3 i j n (by omega) (by omega) (by omega) (by rw[h];omega);have hG:=grownCap_le_maxLen w n 0 5 (by unfold maxLen;omega);have E:=grownCap_ge w n 0 5;generalize grownCap w n 0 5=G at *;go_enter Tryz.func163,Tryz.ntmps163;go_wp2_with(at_builtin;refine Lib.wpList_append_run _ rfl (.tmp 20) (.tmp 21) 22 3 rfl _ _ (by rfl) (by rfl) _ _ hr ?_);go_ret;refine⟨_,rfl,⟨by simp, .inr ⟨w.heap.size,G,_,rfl,Aj _,heap_alloc_new w _,by omega,hG,?_,by simp⟩⟩,by(repeat (with_reducible first|exact Ag _ _|assumption|refine Aq ?_ |refine below_drewN ?_ _|refine qZ ?_ |refine bZ ?_ |refine eZ (by assumption) ?_ |refine belA ?_ |refine rZ (by assumption) ?_))⟩;simp[Builtin.zeroCells];omega
structure Part where
 A:Option Addr
 c:Nat
 ls:List Nat
def Part.v(p:Part):Value:= .slice p.A p.ls.length p.c
structure Part.Ok (p:Part) (w:World):Prop where
 row:Row w w.heap.size p.A p.ls.length 1 (iZ .u8 p.ls)
 nil:p.A=none->p.ls.length=0/\p.c=0
theorem Part.Ok.step{p:Part}{w w':World}(h:p.Ok w)(hb:Below w.heap.size w w'):p.Ok w':=⟨(h.row.below hb).mono hb.size,h.nil⟩
def EA(ps:List Part):Nat:=(ps.flatMap Part.ls).length
theorem WA(w:World)(g m:Nat)(ps:List Part)(hm:ps.length=m)(ay:m<=8)(hs:EA ps<=1000000)(Y:∀p∈ps,p.Ok w)(hg:Blk w g 22 (ps.map Part.v).toArray):
 Calls Tryz.prog 108 #[.slice (some ⟨g,0,none⟩) m m] w fun e w'=>∃v,e= .returned v/\w'.ownsRow w.heap.size 5 1 v (ps.flatMap Part.ls).length (cZ .u8 (ps.flatMap Part.ls))/\Below w.heap.size w w':=by
 obtain⟨j0,av,ar,an,ai⟩:=info_parts Cr
 have HP:Hid (∀i,i<m->∃A n c ls,w.cell? ⟨g,i,none⟩=some (.slice A n c)/\List.length ls=n/\(ps.take (i+1)).flatMap Part.ls=(ps.take i).flatMap Part.ls++ls/\(∀wx,Below w.heap.size w wx->Src wx A n c 1 (cZ .u8 ls))/\((ps.take i).flatMap Part.ls).length+n<=1000000):=fun i hi=>by
  have J:i<ps.length:=by omega
  have hp:=Y _ (Hr J);refine⟨ps[i].A,ps[i].ls.length,ps[i].c,ps[i].ls,?_,rfl,?_,fun wx hb=>Hc (hp.step hb).row rfl hp.nil,?_⟩
  ·rw[hg.cell i];simp[J,Part.v]
  ·rw[List.take_succ_eq_append_getElem J,J4];simp
  ·have e:ps.flatMap Part.ls=(ps.take i).flatMap Part.ls++ps[i].ls++(ps.drop (i+1)).flatMap Part.ls:=(by conv=>lhs;rw[<-Ix i ps,J4,CC J,IB,<-EX]);unfold EA at hs;rw[e]at hs;simp at hs;simp;omega
 have HE:Hid ((ps.take m).flatMap Part.ls=ps.flatMap Part.ls):=by rw[Bv (by omega)];exact rfl
 have ae:=hg.lt;have H0:Hid ((ps.take 0).flatMap Part.ls= []):=by rw[List.take_zero];exact rfl
 have ab:Hid ((ps.flatMap Part.ls).length<=1000000):=hs;obtain⟨R,hR⟩:∃R,R=ps.flatMap Part.ls:=⟨_,rfl⟩;rw[<-hR]at HE ab ⊢;obtain⟨T,hT⟩:∃T:Nat->List Nat,T=fun i=>(ps.take i).flatMap Part.ls:=⟨_,rfl⟩;have aa:Hid (∀i,i<m->∃A n c ls,w.cell? ⟨g,i,none⟩=some (.slice A n c)/\List.length ls=n/\T (i+1)=T i++ls/\(∀wx,Below w.heap.size w wx->Src wx A n c 1 (cZ .u8 ls))/\(T i).length+n<=1000000):=by rw[hT];exact HP
 have Z:Hid (T m=R):=by rw[hT];exact HE
 have N:Hid (T 0= []):=by rw[hT];exact H0
 clear HP HE H0 hR hT Y hg hs hm;have az:IntKind.i64.wrap (m:Int)=(m:Int):=Ak _ (by omega);go_enter Tryz.func108,Tryz.ntmps108;go_wp2_with fail;go_loopw [3,11] (fun u v wr=>∃i s:Nat,u= .int .i64 s/\v= .int .i64 i/\i<=m/\Hid (s=(T i).length)/\wr=w) (fun _ v _=>m-(intOf v).toNat)
 case atStart=>exact⟨0,0,rfl,rfl,by omega,by rw[show T 0= [] from N.out];rfl,rfl⟩
 case round=>
  obtain⟨i,s,rfl,rfl,hi,HS,rfl⟩:=hrel;by_cases E:i<m
  ·obtain⟨A,n,c,ls,hc,hn,hT,z,G⟩:=aa.out i E;rw[<-show s=(T i).length from HS.out]at G;have g1:decide ((i:Int)<(m:Int))=true:=(by simp;omega);have aq:decide (i<m)=true:=(by simp;omega);have y0:(0:Int)<=(i:Int):=(by omega);have y1:(i:Int)<(m:Int):=(by omega);have s1:IntKind.i64.wrap ((s:Int)+(n:Int))=((s+n:Nat):Int):=(by rw[Ak _ (by omega)];omega);have s2:IntKind.i64.wrap ((i:Int)+1)=((i+1:Nat):Int):=(by rw[Ak _ (by omega)];omega);have g2:decide (((s+n:Nat):Int)<0)=false:=(by simp;omega);have M:Hid (s+n=(T (i+1)).length):=(by rw[hT,Ai,<-show s=(T i).length from HS.out,hn];exact rfl);generalize s+n=s' at *;clear z hT hn HS E;go_wp2_with fail;go_roundw
   case measure=>go_light;simp[intOf];omega
   case rel=>go_light;exact⟨i+1,s',rfl,rfl,by omega,M.out,trivial⟩
  ·obtain rfl:i=m:=by omega
   have g1:decide ((i:Int)<(i:Int))=false:=(by simp);have aq:decide (i<i)=false:=(by simp);have ah:s<=1000000:=(by have h:=ab.out;rw[<-show T i=R from Z.out,<-show s=(T i).length from HS.out]at h;exact h);obtain⟨w0,rfl⟩:∃w0:World,w0=wr:=⟨_,rfl⟩;have DG:=hid (WK w0 s ah);clear HS;go_wp2_with fail;refine DG.out.mono ?_;rintro e w2 ⟨v2,rfl,ag,L⟩;have U:Hid (w2.ownsRow w0.heap.size 5 1 v2 0 (cZ .u8 [])):=ag;have ac:=hid L;have aA:Hid (∀j vv,w0.cell? ⟨g,j,none⟩=some vv->w2.cell? ⟨g,j,none⟩=some vv):=fun j vv h=>(L.cell (p:=⟨g,j,none⟩) ae).trans h;clear DG ag L;go_wp2_with fail;go_loopw [6,27] (fun u v wx=>∃j s:Nat,v= .int .i64 j/\j<=i/\s<=1000000/\Hid (s=(T j).length)/\Hid (wx.ownsRow w0.heap.size 5 1 u s (cZ .u8 (T j)))/\Hid (Below w0.heap.size w0 wx)) (fun _ v _=>i-(intOf v).toNat)
   case atStart=>exact⟨0,0,rfl,by omega,by omega,by rw[show T 0= [] from N.out];rfl,by rw[show T 0= [] from N.out];exact U.out,ac.out⟩
   case round=>
    obtain⟨j,s2,rfl,hj,ax,HS,HO,HB⟩:=hrel;clear U ac;by_cases E:j<i
    ·obtain⟨A,n,c,ls,hc,hn,hT,z,G⟩:=aa.out j E;rw[<-show s2=(T j).length from HS.out]at G;have q1:decide ((j:Int)<(i:Int))=true:=(by simp;omega);have aj:decide (j<i)=true:=(by simp;omega);have y0:(0:Int)<=(j:Int):=(by omega);have y1:(j:Int)<(i:Int):=(by omega);have u2:IntKind.i64.wrap ((j:Int)+1)=((j+1:Nat):Int):=(by rw[Ak _ (by omega)];omega);have aB:=(HB.out.cell (p:=⟨g,j,none⟩) ae).trans hc;have af:=hid (z _ HB.out);have M:Hid (s2+n=(T (j+1)).length):=(by rw[hT,Ai,<-show s2=(T j).length from HS.out,hn];exact rfl);have HT:=hid hT;have hz:=HB.out.size;have ak:Hid (∀u∈cZ .u8 ls,u.oneCell'=true):=fun u hu=>by unfold cZ at hu;obtain⟨x,_,rfl⟩:=Ep.1 hu;rfl
     clear z hT hn HS E hc;go_wp2_with(at_builtin;refine gZ rfl (.tmp 31) (.tmp 32) 22 rfl w0.heap.size 5 j0 _ 1 1 Tryz.underlying22 av ar an ai rfl (by decide) _ _ _ (by rfl) HO.out _ _ _ _ (by rfl) af.out ak.out (by unfold maxLen;omega) (by omega) hz ?_;intro v4 w4 Q am aw);have al:Hid (w4.ownsRow w0.heap.size 5 1 v4 (s2+n) (cZ .u8 (T (j+1)))):=(by rw[HT.out,show cZ .u8 (T j++ls)=cZ .u8 (T j)++cZ .u8 ls by simp[cZ]];exact Q);have au:Hid (Below w0.heap.size w0 w4):=HB.out.grown am hz (fun y hy=>(Ae HO.out y hy).1);exact⟨⟨j+1,s2+n,rfl,by omega,G,M.out,al.out,au.out⟩,by simp[intOf];omega⟩
    ·obtain rfl:j=i:=by omega
     have q1:decide ((j:Int)<(j:Int))=false:=(by simp);have aj:decide (j<j)=false:=(by simp);go_wp2_with fail;go_ret;refine⟨_,rfl,?_,HB.out⟩;have h:=HO.out;rw[show s2=(T j).length from HS.out,show T j=R from Z.out]at h;exact h
theorem Mr(w:World)(g m:Nat)(ps:List Part)(hm:ps.length=m)(i:m<=8)(hs:EA ps<=1000000)(h:∀p∈ps,p.Ok w)(hg:Blk w g 22 (ps.map Part.v).toArray):
 Calls Tryz.prog 59 #[.slice (some ⟨g,0,none⟩) m m] w fun e w'=>∃v,e= .returned v/\w'.ownsRow w.heap.size 5 1 v (ps.flatMap Part.ls).length (cZ .u8 (ps.flatMap Part.ls))/\Below w.heap.size w w':=by
 have D:=hid (WA w g m ps hm i hs h hg);clear hm hs h hg;go_enter Tryz.func59,Tryz.ntmps59;go_wp2_with fail;refine D.out.mono ?_;rintro e w2 ⟨v,rfl,ho,hb⟩;have HO:=hid ho;clear ho;go_wp2_with fail;go_ret;exact⟨_,rfl,HO.out,hb⟩
end NumPut
namespace Ef
open Go.Proofs.YtbgoibedicbkjaaGreatDoor.Huff (msb bytesOf)
open Go.Proofs.YtbgoibedicbkjaaGreatDoor.NumPut (pZ)
def efW(bound n:Nat):Nat:=Nat.log2 (bound / n)
def unary(n:Nat):List Bool:=List.replicate n false++ [true]
def I3:Nat->List Nat->List Bool
 |_,[]=> []
 |was,x :: t=>unary (x-was)++I3 x t
def JJ(w:Nat)(ids:List Nat):List Bool:=ids.flatMap fun x=>msb (x % 2 ^ w) w w
def Jv(w:Nat)(ids:List Nat):List Bool:=JJ w ids++I3 0 (ids.map (·/ 2 ^ w))
def efO(bound:Nat)(ids:List Nat):List Nat:=if ids= []then pZ 0 else pZ ids.length++bytesOf (Jv (efW bound ids.length) ids)
theorem Oh(n:Nat):(unary n).length=n+1:=by simp[unary]
theorem Kq{q:Nat}(h:q≠0):2 ^ Nat.log2 q<=q:=Nat.log2_self_le h
theorem X0(q:Nat):q<2 ^ (Nat.log2 q+1):=Nat.lt_log2_self
end Ef
namespace NumPut
open Go.RowKit Mem Own Canon
theorem Tb(w:World)(n:Nat)(hn:n<=1000000000):
 Calls Tryz.prog 163 #[.slice none 0 0, .int .i64 n] w fun e w'=>∃v,e= .returned v/\w'.ownsRow w.heap.size 5 1 v 0 []/\Below w.heap.size w w':=by
 obtain⟨j0,i,j,z,h⟩:=info_parts Cr;by_cases h0:n=0
 ·subst h0;go_enter Tryz.func163,Tryz.ntmps163;go_wp2_with fail;go_ret;exact⟨_,rfl,Am _ _ _ _,Ag _ _⟩
 ·have g0:decide ((n:Int)<0)=false:=by simp
  have g1:decide ((0:Int)<(n:Int))=true:=by simp;omega
  have y:decide (0<n)=true:=by simp;omega
  have s1:IntKind.i64.wrap (n:Int)=(n:Int):=Ak _ (by omega);have s2:IntKind.i64.wrap ((n:Int)-0)=(n:Int):=by rw[Ak _ (by omega)];omega
  have hr:=Lib.run_append_nil_zeros (P:=Tryz.prog) w 22 3 22 5 j0 _ .i64 .i64 Tryz.underlying22 Tryz.underlying3 i j n (by omega) (by omega) (by omega) (by rw[h];omega);have hG:=grownCap_le_maxLen w n 0 5 (by unfold maxLen;omega);have E:=grownCap_ge w n 0 5;generalize grownCap w n 0 5=G at *;go_enter Tryz.func163,Tryz.ntmps163;go_wp2_with(at_builtin;refine Lib.wpList_append_run _ rfl (.tmp 20) (.tmp 21) 22 3 rfl _ _ (by rfl) (by rfl) _ _ hr ?_);go_ret;refine⟨_,rfl,⟨by simp, .inr ⟨w.heap.size,G,_,rfl,Aj _,heap_alloc_new w _,by omega,hG,?_,by simp⟩⟩,by(repeat (with_reducible first|exact Ag _ _|assumption|refine Aq ?_ |refine below_drewN ?_ _|refine qZ ?_ |refine bZ ?_ |refine eZ (by assumption) ?_ |refine belA ?_ |refine rZ (by assumption) ?_))⟩;simp[Builtin.zeroCells];omega
theorem Wm(w:World)(g m mc:Nat)(ps:List Part)(hm:ps.length=m)(ay:m<=2000000)(hs:EA ps<=1000000000)(Y:∀p∈ps,p.Ok w)(ae:g<w.heap.size)(hg:∀i (h:i<ps.length),w.cell? ⟨g,i,none⟩=some ps[i].v):
 Calls Tryz.prog 108 #[.slice (some ⟨g,0,none⟩) m mc] w fun e w'=>∃v,e= .returned v/\w'.ownsRow w.heap.size 5 1 v (ps.flatMap Part.ls).length (cZ .u8 (ps.flatMap Part.ls))/\Below w.heap.size w w':=by
 obtain⟨j0,av,ar,an,ai⟩:=info_parts Cr
 have HP:Hid (∀i,i<m->∃A n c ls,w.cell? ⟨g,i,none⟩=some (.slice A n c)/\List.length ls=n/\(ps.take (i+1)).flatMap Part.ls=(ps.take i).flatMap Part.ls++ls/\(∀wx,Below w.heap.size w wx->Src wx A n c 1 (cZ .u8 ls))/\((ps.take i).flatMap Part.ls).length+n<=1000000000):=fun i hi=>by
  have J:i<ps.length:=by omega
  have hp:=Y _ (Hr J);refine⟨ps[i].A,ps[i].ls.length,ps[i].c,ps[i].ls,?_,rfl,?_,fun wx hb=>Hc (hp.step hb).row rfl hp.nil,?_⟩
  ·rw[hg i J];rfl
  ·rw[List.take_succ_eq_append_getElem J,J4];simp
  ·have e:ps.flatMap Part.ls=(ps.take i).flatMap Part.ls++ps[i].ls++(ps.drop (i+1)).flatMap Part.ls:=(by conv=>lhs;rw[<-Ix i ps,J4,CC J,IB,<-EX]);unfold EA at hs;rw[e]at hs;simp at hs;simp;omega
 have HE:Hid ((ps.take m).flatMap Part.ls=ps.flatMap Part.ls):=by rw[Bv (by omega)];exact rfl
 have H0:Hid ((ps.take 0).flatMap Part.ls= []):=by rw[List.take_zero];exact rfl
 have ab:Hid ((ps.flatMap Part.ls).length<=1000000000):=hs;obtain⟨R,hR⟩:∃R,R=ps.flatMap Part.ls:=⟨_,rfl⟩;rw[<-hR]at HE ab ⊢;obtain⟨T,hT⟩:∃T:Nat->List Nat,T=fun i=>(ps.take i).flatMap Part.ls:=⟨_,rfl⟩;have aa:Hid (∀i,i<m->∃A n c ls,w.cell? ⟨g,i,none⟩=some (.slice A n c)/\List.length ls=n/\T (i+1)=T i++ls/\(∀wx,Below w.heap.size w wx->Src wx A n c 1 (cZ .u8 ls))/\(T i).length+n<=1000000000):=by rw[hT];exact HP
 have Z:Hid (T m=R):=by rw[hT];exact HE
 have N:Hid (T 0= []):=by rw[hT];exact H0
 clear HP HE H0 hR hT Y hg hs hm;have az:IntKind.i64.wrap (m:Int)=(m:Int):=Ak _ (by omega);go_enter Tryz.func108,Tryz.ntmps108;go_wp2_with fail;go_loopw [3,11] (fun u v wr=>∃i s:Nat,u= .int .i64 s/\v= .int .i64 i/\i<=m/\Hid (s=(T i).length)/\wr=w) (fun _ v _=>m-(intOf v).toNat)
 case atStart=>exact⟨0,0,rfl,rfl,by omega,by rw[show T 0= [] from N.out];rfl,rfl⟩
 case round=>
  obtain⟨i,s,rfl,rfl,hi,HS,rfl⟩:=hrel;by_cases E:i<m
  ·obtain⟨A,n,c,ls,hc,hn,hT,z,G⟩:=aa.out i E;rw[<-show s=(T i).length from HS.out]at G;have g1:decide ((i:Int)<(m:Int))=true:=(by simp;omega);have aq:decide (i<m)=true:=(by simp;omega);have y0:(0:Int)<=(i:Int):=(by omega);have y1:(i:Int)<(m:Int):=(by omega);have s1:IntKind.i64.wrap ((s:Int)+(n:Int))=((s+n:Nat):Int):=(by rw[Ak _ (by omega)];omega);have s2:IntKind.i64.wrap ((i:Int)+1)=((i+1:Nat):Int):=(by rw[Ak _ (by omega)];omega);have g2:decide (((s+n:Nat):Int)<0)=false:=(by simp;omega);have M:Hid (s+n=(T (i+1)).length):=(by rw[hT,Ai,<-show s=(T i).length from HS.out,hn];exact rfl);generalize s+n=s' at *;clear z hT hn HS E;go_wp2_with fail;go_roundw
   case measure=>go_light;simp[intOf];omega
   case rel=>go_light;exact⟨i+1,s',rfl,rfl,by omega,M.out,trivial⟩
  ·obtain rfl:i=m:=by omega
   have g1:decide ((i:Int)<(i:Int))=false:=(by simp);have aq:decide (i<i)=false:=(by simp);have ah:s<=1000000000:=(by have h:=ab.out;rw[<-show T i=R from Z.out,<-show s=(T i).length from HS.out]at h;exact h);obtain⟨w0,rfl⟩:∃w0:World,w0=wr:=⟨_,rfl⟩;have DG:=hid (Tb w0 s ah);clear HS;go_wp2_with fail;refine DG.out.mono ?_;rintro e w2 ⟨v2,rfl,ag,L⟩;have U:Hid (w2.ownsRow w0.heap.size 5 1 v2 0 (cZ .u8 [])):=ag;have ac:=hid L;have aA:Hid (∀j vv,w0.cell? ⟨g,j,none⟩=some vv->w2.cell? ⟨g,j,none⟩=some vv):=fun j vv h=>(L.cell (p:=⟨g,j,none⟩) ae).trans h;clear DG ag L;go_wp2_with fail;go_loopw [6,27] (fun u v wx=>∃j s:Nat,v= .int .i64 j/\j<=i/\s<=1000000000/\Hid (s=(T j).length)/\Hid (wx.ownsRow w0.heap.size 5 1 u s (cZ .u8 (T j)))/\Hid (Below w0.heap.size w0 wx)) (fun _ v _=>i-(intOf v).toNat)
   case atStart=>exact⟨0,0,rfl,by omega,by omega,by rw[show T 0= [] from N.out];rfl,by rw[show T 0= [] from N.out];exact U.out,ac.out⟩
   case round=>
    obtain⟨j,s2,rfl,hj,ax,HS,HO,HB⟩:=hrel;clear U ac;by_cases E:j<i
    ·obtain⟨A,n,c,ls,hc,hn,hT,z,G⟩:=aa.out j E;rw[<-show s2=(T j).length from HS.out]at G;have q1:decide ((j:Int)<(i:Int))=true:=(by simp;omega);have aj:decide (j<i)=true:=(by simp;omega);have y0:(0:Int)<=(j:Int):=(by omega);have y1:(j:Int)<(i:Int):=(by omega);have u2:IntKind.i64.wrap ((j:Int)+1)=((j+1:Nat):Int):=(by rw[Ak _ (by omega)];omega);have aB:=(HB.out.cell (p:=⟨g,j,none⟩) ae).trans hc;have af:=hid (z _ HB.out);have M:Hid (s2+n=(T (j+1)).length):=(by rw[hT,Ai,<-show s2=(T j).length from HS.out,hn];exact rfl);have HT:=hid hT;have hz:=HB.out.size;have ak:Hid (∀u∈cZ .u8 ls,u.oneCell'=true):=fun u hu=>by unfold cZ at hu;obtain⟨x,_,rfl⟩:=Ep.1 hu;rfl
     clear z hT hn HS E hc;go_wp2_with(at_builtin;refine gZ rfl (.tmp 31) (.tmp 32) 22 rfl w0.heap.size 5 j0 _ 1 1 Tryz.underlying22 av ar an ai rfl (by decide) _ _ _ (by rfl) HO.out _ _ _ _ (by rfl) af.out ak.out (by unfold maxLen;omega) (by omega) hz ?_;intro v4 w4 Q am aw);have al:Hid (w4.ownsRow w0.heap.size 5 1 v4 (s2+n) (cZ .u8 (T (j+1)))):=(by rw[HT.out,show cZ .u8 (T j++ls)=cZ .u8 (T j)++cZ .u8 ls by simp[cZ]];exact Q);have au:Hid (Below w0.heap.size w0 w4):=HB.out.grown am hz (fun y hy=>(Ae HO.out y hy).1);exact⟨⟨j+1,s2+n,rfl,by omega,G,M.out,al.out,au.out⟩,by simp[intOf];omega⟩
    ·obtain rfl:j=i:=by omega
     have q1:decide ((j:Int)<(j:Int))=false:=(by simp);have aj:decide (j<j)=false:=(by simp);go_wp2_with fail;go_ret;refine⟨_,rfl,?_,HB.out⟩;have h:=HO.out;rw[show s2=(T j).length from HS.out,show T j=R from Z.out]at h;exact h
theorem OM(w:World)(g m mc:Nat)(ps:List Part)(hm:ps.length=m)(z:m<=2000000)(hs:EA ps<=1000000000)(j:∀p∈ps,p.Ok w)(y:g<w.heap.size)(hg:∀i (h:i<ps.length),w.cell? ⟨g,i,none⟩=some ps[i].v):
 Calls Tryz.prog 59 #[.slice (some ⟨g,0,none⟩) m mc] w fun e w'=>∃v,e= .returned v/\w'.ownsRow w.heap.size 5 1 v (ps.flatMap Part.ls).length (cZ .u8 (ps.flatMap Part.ls))/\Below w.heap.size w w':=by
 have D:=hid (Wm w g m mc ps hm z hs j y hg);clear hm hs j hg y;go_enter Tryz.func59,Tryz.ntmps59;go_wp2_with fail;refine D.out.mono ?_;rintro e w2 ⟨v,rfl,ho,hb⟩;have HO:=hid ho;clear ho;go_wp2_with fail;go_ret;exact⟨_,rfl,HO.out,hb⟩
end NumPut
end Go.Proofs.YtbgoibedicbkjaaGreatDoor

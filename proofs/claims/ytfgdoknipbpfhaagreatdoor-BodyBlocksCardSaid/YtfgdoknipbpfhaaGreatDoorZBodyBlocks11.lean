/- Numbers written: num -/
import Derived.Test.YtfgdoknipbpfhaaGreatDoorZBodyBlocks3
import Derived.Lib.AppendZeros
namespace Go.Proofs.YtfgdoknipbpfhaaGreatDoor
open Go.Proofs.Tryz
open Go.Lib (hid)
set_option maxHeartbeats 2000000
set_option maxRecDepth 100000
variable{x:Nat}
namespace NumPut
open Go.RowKit Mem Own Canon
theorem Jf(k:IntKind)(l:List Nat)(x:Nat):cZ k (l++ [x])=cZ k l++ [.int k (x:Nat)]:=oW
def fZ(x:Nat):List Nat:=if x<128 then [x]else(x % 128+128) :: fZ (x / 128)
termination_by x
decreasing_by omega
theorem EM(h:x<128):fZ x= [x]:=by rw[fZ,Ab h]
theorem FZ(h:¬x<128):fZ x=(x % 128+128) :: fZ (x / 128):=by rw[fZ,Aa h]
theorem CU(x:Nat):∀y∈fZ x,y<=255:=by
 induction x using Nat.strongRecOn with
 |_ x ih=>
  by_cases h:x<128
  ·rw[EM h];intro y hy;simp at hy;omega
  ·rw[FZ h];intro y hy;rcases AM.1 hy with rfl|hy
   ·omega
   ·exact ih (x / 128) mw y hy
theorem Vi:∀v:Nat,v<256->v |||128=v % 128+128:=ip
theorem num_any(w:World)(x:Nat)(hx:x<=100000):
 Calls prog 99 #[.int .u64 x] w fun e w'=>∃v,e= .returned v/\w'.ownsRow w 5 1 v (fZ x).length (cZ .u8 (fZ x))/\Below w w w':=by
 obtain⟨j0,L,M,Y,U⟩:=info_parts Ee;obtain⟨R,hR⟩:=ii (fZ x);have N:Hid ([]++fZ x=R):=hR.symm;rw[<-hR];clear hR;go_enter func99,ntmps99;go_wp2_with fail;go_loopw [0,3] (fun u v wr=>∃ (X k:Nat) (done:List Nat),u= .int .u64 X/\X+k<=100000/\Hid (done.length=k)/\Hid (done++fZ X=R)/\Hid (wr.ownsRow w 5 1 v k (cZ .u8 done))/\Hid (Below w w wr)) (fun u _ _=>(intOf u).toNat)
 case atStart=>exact⟨x,0,[],rfl,mw,rfl,N.out,AI _ _ _ _,Ag _ _⟩
 case round=>
  obtain⟨X,k,done,rfl,hk,HL,HR,HO,HB⟩:=hrel;clear N;have zb:=HB.out.size;by_cases z:X<128
  ·have g1:=ig ((128:Int)<=X);have Z:=ig (128<=X);have c1:IntKind.u8.wrap (X:Int)=(X:Int):=nz;have j:Hid (done++ [X]=R):=jz;go_wp2_with(at_builtin;refine iZ rfl (.tmp 14) (.tmp 17) 28 rfl w 5 j0 _ 1 1 underlying28 L M Y U rfl ip _ _ _ mz (HO.out.alloc _) _ 1 1 [.int .u8 (X:Nat)] mz (Src.of_blk (g:=wr.heap.size) (Blk.made _ _ _) 1 1 1 rfl) mj pm mw oT ?_;intro v4 w4 i E Q);have G:Hid (w4.ownsRow w 5 1 v4 R.length (cZ .u8 R)):=mO;have J:Hid (Below w w w4):=(aZ HB.out).grown E oT (fun y hy=>(Aj HO.out y hy).1);go_ret;exact⟨_,rfl,G.out,J.out⟩
  ·have g1:=ic ((128:Int)<=X);have Z:=ic (128<=X);have c1:IntKind.u8.wrap (X:Int)=((X % 256:Nat):Int):=nz;have o1:bits .or .u8 ((X % 256:Nat):Int) 128=((X % 128+128:Nat):Int):=nY;have j:Hid ((done++ [X % 128+128])++fZ (X / 128)=R):=ka;obtain⟨b,hb⟩:=ii (X % 128+128);obtain⟨a,ha⟩:=ii (X % 256);rw[<-hb]at o1 j;rw[<-ha]at o1 c1;clear hb ha;go_wp2_with(at_builtin;refine iZ rfl (.tmp 6) (.tmp 10) 28 rfl w 5 j0 _ 1 1 underlying28 L M Y U rfl ip _ _ _ mz (HO.out.alloc _) _ 1 1 [.int .u8 (b:Nat)] mz (Src.of_blk (g:=wr.heap.size) (Blk.made _ _ _) 1 1 1 rfl) mj pm mw oT ?_;intro v4 w4 i E Q);have aa:Hid (w4.ownsRow w 5 1 v4 (k+1) (cZ .u8 (done++ [b]))):=(by rw[Jf];exact i);have J:Hid (Below w w w4):=(aZ HB.out).grown E oT (fun y hy=>(Aj HO.out y hy).1);exact⟨⟨X / 128,k+1,done++ [b],Aw _ mw,mw,ow,j.out,aa.out,J.out⟩,o7⟩
end NumPut
namespace NumPut
open Go.RowKit Mem Own Canon
theorem iU(w:World)(n:Nat)(hn:n<=1000000):
 Calls prog 185 #[(),n] w fun e w'=>∃v,e= .returned v/\w'.ownsRow w 5 1 v 0 []/\Below w w w':=by
 obtain⟨j0,i,h,E,j⟩:=info_parts Ee;by_cases h0:n=0
 ·subst h0;go_enter func185,ntmps185;go_wp2_with fail;go_ret;exact⟨_,rfl,AI _ _ _ _,Ag _ _⟩
 ·have g0:=ig ((n:Int)<0)
  have g1:=ic ((0:Int)<n)
  have z:=ic (0<n)
  have s1:IntKind.i64.wrap (n:Int)=(n:Int):=Aq _ mw;have s2:IntKind.i64.wrap ((n:Int)-0)=(n:Int):=m8
  have hr:=Lib.run_append_nil_zeros (P:=prog) w 28 3 28 5 j0 _ .i64 .i64 underlying28 underlying3 i h n mw mw mw (by rw[j];omega);have hG:=grownCap_le_maxLen w n 0 5 pm;have y:=grownCap_ge w n 0 5;generalize grownCap w n 0 5=G at *;go_enter func185,ntmps185;go_wp2_with(at_builtin;refine Lib.wpList_append_run _ rfl (.tmp 20) (.tmp 21) 28 3 rfl _ _ mz mz _ _ hr ?_);go_ret;refine⟨_,rfl,⟨oK, .inr ⟨w.heap.size,G,_,rfl,Ak _,heap_alloc_new w _,mw,hG,?_,oK⟩⟩,pn⟩;simp[Builtin.zeroCells];omega
structure Part where
 A:Option Addr
 c:Nat
 ls:List Nat
def Part.v(p:Part):Value:= .slice p.A p.ls.length p.c
structure Part.Ok (p:Part) (w:World):Prop where
 row:Row w w p.A p.ls.length 1 (jZ .u8 p.ls)
 nil:p.A=none->p.ls.length=0/\p.c=0
theorem Part.Ok.step{p:Part}{w w':World}(h:p.Ok w)(hb:Below w w w'):p.Ok w':=⟨(h.row.below hb).mono hb.size,h.nil⟩
def BI(ps:List Part):Nat:=(ps.flatMap Part.ls).length
theorem ZN(w:World)(g m:Nat)(ps:List Part)(hm:ps.length=m)(ax:m<=8)(hs:BI ps<=1000000)(ae:∀p∈ps,p.Ok w)(hg:Blk w g 28 (ps.map Part.v).toArray):
 Calls prog 109 #[.slice (some ⟨g,0,none⟩) m m] w fun e w'=>∃v,e= .returned v/\w'.ownsRow w 5 1 v (ps.flatMap Part.ls).length (cZ .u8 (ps.flatMap Part.ls))/\Below w w w':=by
 obtain⟨j0,ai,am,ak,an⟩:=info_parts Ee
 have HP:Hid (∀i,i<m->∃A n c ls,w.cell? ⟨g,i,none⟩=some (.slice A n c)/\List.length ls=n/\(ps.take (i+1)).flatMap Part.ls=(ps.take i).flatMap Part.ls++ls/\(∀wx,Below w w wx->Src wx A n c 1 (cZ .u8 ls))/\((ps.take i).flatMap Part.ls).length+n<=1000000):=fun i hi=>by
  have J:i<ps.length:=mw
  have hp:=ae _ (Fe J);refine⟨ps[i].A,ps[i].ls.length,ps[i].c,ps[i].ls,?_,rfl,?_,fun wx hb=>KM (hp.step hb).row rfl hp.nil,?_⟩
  ·rw[hg.cell i];simp[J,Part.v]
  ·rw[List.take_succ_eq_append_getElem J,Il];simp
  ·have e:ps.flatMap Part.ls=(ps.take i).flatMap Part.ls++ps[i].ls++(ps.drop (i+1)).flatMap Part.ls:=(by conv=>lhs;rw[<-EA i ps,Il,Dj J,Cm,<-AE]);unfold BI at hs;rw[e]at hs;simp at hs;simp;omega
 have HE:Hid ((ps.take m).flatMap Part.ls=ps.flatMap Part.ls):=by rw[BQ mw];exact rfl
 have Z:=hg.lt;have H0:Hid ((ps.take 0).flatMap Part.ls= []):=by rw[List.take_zero];exact rfl
 have ab:Hid ((ps.flatMap Part.ls).length<=1000000):=hs;obtain⟨R,hR⟩:=ii (ps.flatMap Part.ls);rw[<-hR]at HE ab ⊢;obtain⟨T,hT⟩:∃T:Nat->List Nat,T=fun i=>(ps.take i).flatMap Part.ls:=⟨_,rfl⟩;have ac:Hid (∀i,i<m->∃A n c ls,w.cell? ⟨g,i,none⟩=some (.slice A n c)/\List.length ls=n/\T (i+1)=T i++ls/\(∀wx,Below w w wx->Src wx A n c 1 (cZ .u8 ls))/\(T i).length+n<=1000000):=by rw[hT];exact HP
 have U:Hid (T m=R):=by rw[hT];exact HE
 have N:Hid (T 0= []):=by rw[hT];exact H0
 clear HP HE H0 hR hT ae hg hs hm;have az:IntKind.i64.wrap (m:Int)=(m:Int):=Aq _ mw;go_enter func109,ntmps109;go_wp2_with fail;go_loopw [3,11] (fun u v wr=>∃i s:Nat,u= .int .i64 s/\v= .int .i64 i/\i<=m/\Hid (s=(T i).length)/\wr=w) (fun _ v _=>m-(intOf v).toNat)
 case atStart=>exact⟨0,0,rfl,rfl,mw,by rw[show T 0= [] from N.out];rfl,rfl⟩
 case round=>
  obtain⟨i,s,rfl,rfl,hi,HS,rfl⟩:=hrel;by_cases E:i<m
  ·obtain⟨A,n,c,ls,hc,hn,hT,z,G⟩:=ac.out i E;rw[<-show s=(T i).length from HS.out]at G;have g1:=ic ((i:Int)<m);have al:=ic (i<m);have y0:(0:Int)<=(i:Int):=mw;have y1:(i:Int)<(m:Int):=mw;have s1:IntKind.i64.wrap ((s:Int)+(n:Int))=((s+n:Nat):Int):=m8;have s2:IntKind.i64.wrap ((i:Int)+1)=((i+1:Nat):Int):=m8;have g2:=ig (((s+n:Nat):Int)<0);have Q:Hid (s+n=(T (i+1)).length):=nM;generalize s+n=s' at *;clear z hT hn HS E;go_wp2_with fail;go_roundw
   case measure=>exact jo
   case rel=>go_light;exact⟨i+1,s',rfl,rfl,mw,Q.out,trivial⟩
  ·obtain rfl:i=m:=by omega
   have g1:=ig ((i:Int)<i);have al:=ig (i<i);have af:s<=1000000:=kj;obtain⟨w0,rfl⟩:=ii wr;have DG:=hid (iU w0 s af);clear HS;go_wp2_with fail;refine DG.out.mono ?_;rintro e w2 ⟨v2,rfl,aa,L⟩;have ag:Hid (w2.ownsRow w0 5 1 v2 0 (cZ .u8 [])):=aa;have Y:=hid L;have a1:Hid (∀j vv,w0.cell? ⟨g,j,none⟩=some vv->w2.cell? ⟨g,j,none⟩=some vv):=fun j vv h=>(L.cell (p:=⟨g,j,none⟩) Z).trans h;clear DG aa L;go_wp2_with fail;go_loopw [6,27] (fun u v wx=>∃j s:Nat,v= .int .i64 j/\j<=i/\s<=1000000/\Hid (s=(T j).length)/\Hid (wx.ownsRow w0 5 1 u s (cZ .u8 (T j)))/\Hid (Below w0 w0 wx)) (fun _ v _=>i-(intOf v).toNat)
   case atStart=>exact⟨0,0,rfl,mw,mw,by rw[show T 0= [] from N.out];rfl,by rw[show T 0= [] from N.out];exact ag.out,Y.out⟩
   case round=>
    obtain⟨j,s2,rfl,hj,a0,HS,HO,HB⟩:=hrel;clear ag Y;by_cases E:j<i
    ·obtain⟨A,n,c,ls,hc,hn,hT,z,G⟩:=ac.out j E;rw[<-show s2=(T j).length from HS.out]at G;have q1:=ic ((j:Int)<i);have ar:=ic (j<i);have y0:(0:Int)<=(j:Int):=mw;have y1:(j:Int)<(i:Int):=mw;have u2:IntKind.i64.wrap ((j:Int)+1)=((j+1:Nat):Int):=m8;have ay:=(HB.out.cell (p:=⟨g,j,none⟩) Z).trans hc;have ah:=hid (z _ HB.out);have Q:Hid (s2+n=(T (j+1)).length):=nK;have HT:=hid hT;have hz:=HB.out.size;have aj:Hid (∀u∈cZ .u8 ls,u.oneCell'=true):=fun u hu=>by unfold cZ at hu;obtain⟨x,_,rfl⟩:=Ck.1 hu;rfl
     clear z hT hn HS E hc;go_wp2_with(at_builtin;refine iZ rfl (.tmp 31) (.tmp 32) 28 rfl w0 5 j0 _ 1 1 underlying28 ai am ak an rfl ip _ _ _ mz HO.out _ _ _ _ mz ah.out aj.out pm mw hz ?_;intro v4 w4 M au aw);have av:Hid (w4.ownsRow w0 5 1 v4 (s2+n) (cZ .u8 (T (j+1)))):=ny;have aq:Hid (Below w0 w0 w4):=HB.out.grown au hz (fun y hy=>(Aj HO.out y hy).1);exact⟨⟨j+1,s2+n,rfl,mw,G,Q.out,av.out,aq.out⟩,o7⟩
    ·obtain rfl:j=i:=by omega
     have q1:=ig ((j:Int)<j);have ar:=ig (j<j);go_wp2_with fail;go_ret;refine⟨_,rfl,?_,HB.out⟩;have h:=HO.out;rw[show s2=(T j).length from HS.out,show T j=R from U.out]at h;exact h
theorem Fz(w:World)(g m:Nat)(ps:List Part)(hm:ps.length=m)(i:m<=8)(hs:BI ps<=1000000)(h:∀p∈ps,p.Ok w)(hg:Blk w g 28 (ps.map Part.v).toArray):
 Calls prog 55 #[.slice (some ⟨g,0,none⟩) m m] w fun e w'=>∃v,e= .returned v/\w'.ownsRow w 5 1 v (ps.flatMap Part.ls).length (cZ .u8 (ps.flatMap Part.ls))/\Below w w w':=by
 have D:=hid (ZN w g m ps hm i hs h hg);clear hm hs h hg;go_enter func55,ntmps55;go_wp2_with fail;refine D.out.mono ?_;rintro e w2 ⟨v,rfl,ho,hb⟩;have HO:=hid ho;clear ho;go_wp2_with fail;go_ret;exact⟨_,rfl,HO.out,hb⟩
end NumPut
namespace Ef
open Huff (msb bytesOf)
open NumPut (fZ)
def efW(bound n:Nat):Nat:=Nat.log2 (bound / n)
def unary(n:Nat):List Bool:=List.replicate n false++ [true]
def DQ:Nat->List Nat->List Bool
 |_,[]=> []
 |was,x :: t=>unary (x-was)++DQ x t
def Da(w:Nat)(ids:List Nat):List Bool:=ids.flatMap fun x=>msb (x % 2 ^ w) w w
def Fh(w:Nat)(ids:List Nat):List Bool:=Da w ids++DQ 0 (ids.map (·/ 2 ^ w))
def efO(bound:Nat)(ids:List Nat):List Nat:=if ids= []then fZ 0 else fZ ids.length++bytesOf (Fh (efW bound ids.length) ids)
theorem Jv(n:Nat):(unary n).length=n+1:=by simp[unary]
theorem Zq(w:Nat)(l:List Nat)(x:Nat):Da w (l++ [x])=Da w l++msb (x % 2 ^ w) w w:=by simp[Da]
theorem RG:∀ (l:List Nat) (h x:Nat),DQ h (l++ [x])=DQ h l++unary (x-(l.getLast?.getD h))
 | [],h,x=>by simp[DQ]
 |y :: t,h,x=>by
  rw[DH,DQ,RG t y x,DQ,AE];congr 3;cases t with
  |nil=>rfl
  |cons z s=>simp[List.getLast?_cons]
theorem Ke{q:Nat}(h:q≠0):2 ^ Nat.log2 q<=q:=Nat.log2_self_le h
end Ef
namespace NumPut
open Go.RowKit Mem Own Canon
theorem lF(w:World)(n:Nat)(hn:n<=1000000000):
 Calls prog 185 #[(),n] w fun e w'=>∃v,e= .returned v/\w'.ownsRow w 5 1 v 0 []/\Below w w w':=by
 obtain⟨j0,i,h,E,j⟩:=info_parts Ee;by_cases h0:n=0
 ·subst h0;go_enter func185,ntmps185;go_wp2_with fail;go_ret;exact⟨_,rfl,AI _ _ _ _,Ag _ _⟩
 ·have g0:=ig ((n:Int)<0)
  have g1:=ic ((0:Int)<n)
  have z:=ic (0<n)
  have s1:IntKind.i64.wrap (n:Int)=(n:Int):=Aq _ mw;have s2:IntKind.i64.wrap ((n:Int)-0)=(n:Int):=m8
  have hr:=Lib.run_append_nil_zeros (P:=prog) w 28 3 28 5 j0 _ .i64 .i64 underlying28 underlying3 i h n mw mw mw (by rw[j];omega);have hG:=grownCap_le_maxLen w n 0 5 pm;have y:=grownCap_ge w n 0 5;generalize grownCap w n 0 5=G at *;go_enter func185,ntmps185;go_wp2_with(at_builtin;refine Lib.wpList_append_run _ rfl (.tmp 20) (.tmp 21) 28 3 rfl _ _ mz mz _ _ hr ?_);go_ret;refine⟨_,rfl,⟨oK, .inr ⟨w.heap.size,G,_,rfl,Ak _,heap_alloc_new w _,mw,hG,?_,oK⟩⟩,pn⟩;simp[Builtin.zeroCells];omega
theorem Y4(w:World)(g m mc:Nat)(ps:List Part)(hm:ps.length=m)(ax:m<=2000000)(hs:BI ps<=1000000000)(ae:∀p∈ps,p.Ok w)(Z:g<w.heap.size)(hg:∀i (h:i<ps.length),w.cell? ⟨g,i,none⟩=some ps[i].v):
 Calls prog 109 #[.slice (some ⟨g,0,none⟩) m mc] w fun e w'=>∃v,e= .returned v/\w'.ownsRow w 5 1 v (ps.flatMap Part.ls).length (cZ .u8 (ps.flatMap Part.ls))/\Below w w w':=by
 obtain⟨j0,ai,am,ak,an⟩:=info_parts Ee
 have HP:Hid (∀i,i<m->∃A n c ls,w.cell? ⟨g,i,none⟩=some (.slice A n c)/\List.length ls=n/\(ps.take (i+1)).flatMap Part.ls=(ps.take i).flatMap Part.ls++ls/\(∀wx,Below w w wx->Src wx A n c 1 (cZ .u8 ls))/\((ps.take i).flatMap Part.ls).length+n<=1000000000):=fun i hi=>by
  have J:i<ps.length:=mw
  have hp:=ae _ (Fe J);refine⟨ps[i].A,ps[i].ls.length,ps[i].c,ps[i].ls,?_,rfl,?_,fun wx hb=>KM (hp.step hb).row rfl hp.nil,?_⟩
  ·rw[hg i J];rfl
  ·rw[List.take_succ_eq_append_getElem J,Il];simp
  ·have e:ps.flatMap Part.ls=(ps.take i).flatMap Part.ls++ps[i].ls++(ps.drop (i+1)).flatMap Part.ls:=(by conv=>lhs;rw[<-EA i ps,Il,Dj J,Cm,<-AE]);unfold BI at hs;rw[e]at hs;simp at hs;simp;omega
 have HE:Hid ((ps.take m).flatMap Part.ls=ps.flatMap Part.ls):=by rw[BQ mw];exact rfl
 have H0:Hid ((ps.take 0).flatMap Part.ls= []):=by rw[List.take_zero];exact rfl
 have ab:Hid ((ps.flatMap Part.ls).length<=1000000000):=hs;obtain⟨R,hR⟩:=ii (ps.flatMap Part.ls);rw[<-hR]at HE ab ⊢;obtain⟨T,hT⟩:∃T:Nat->List Nat,T=fun i=>(ps.take i).flatMap Part.ls:=⟨_,rfl⟩;have ac:Hid (∀i,i<m->∃A n c ls,w.cell? ⟨g,i,none⟩=some (.slice A n c)/\List.length ls=n/\T (i+1)=T i++ls/\(∀wx,Below w w wx->Src wx A n c 1 (cZ .u8 ls))/\(T i).length+n<=1000000000):=by rw[hT];exact HP
 have U:Hid (T m=R):=by rw[hT];exact HE
 have Q:Hid (T 0= []):=by rw[hT];exact H0
 clear HP HE H0 hR hT ae hg hs hm;have az:IntKind.i64.wrap (m:Int)=(m:Int):=Aq _ mw;go_enter func109,ntmps109;go_wp2_with fail;go_loopw [3,11] (fun u v wr=>∃i s:Nat,u= .int .i64 s/\v= .int .i64 i/\i<=m/\Hid (s=(T i).length)/\wr=w) (fun _ v _=>m-(intOf v).toNat)
 case atStart=>exact⟨0,0,rfl,rfl,mw,by rw[show T 0= [] from Q.out];rfl,rfl⟩
 case round=>
  obtain⟨i,s,rfl,rfl,hi,HS,rfl⟩:=hrel;by_cases E:i<m
  ·obtain⟨A,n,c,ls,hc,hn,hT,z,G⟩:=ac.out i E;rw[<-show s=(T i).length from HS.out]at G;have g1:=ic ((i:Int)<m);have al:=ic (i<m);have y0:(0:Int)<=(i:Int):=mw;have y1:(i:Int)<(m:Int):=mw;have s1:IntKind.i64.wrap ((s:Int)+(n:Int))=((s+n:Nat):Int):=m8;have s2:IntKind.i64.wrap ((i:Int)+1)=((i+1:Nat):Int):=m8;have g2:=ig (((s+n:Nat):Int)<0);have N:Hid (s+n=(T (i+1)).length):=nM;generalize s+n=s' at *;clear z hT hn HS E;go_wp2_with fail;go_roundw
   case measure=>exact jo
   case rel=>go_light;exact⟨i+1,s',rfl,rfl,mw,N.out,trivial⟩
  ·obtain rfl:i=m:=by omega
   have g1:=ig ((i:Int)<i);have al:=ig (i<i);have af:s<=1000000000:=kj;obtain⟨w0,rfl⟩:=ii wr;have DG:=hid (lF w0 s af);clear HS;go_wp2_with fail;refine DG.out.mono ?_;rintro e w2 ⟨v2,rfl,aa,L⟩;have ag:Hid (w2.ownsRow w0 5 1 v2 0 (cZ .u8 [])):=aa;have Y:=hid L;have a1:Hid (∀j vv,w0.cell? ⟨g,j,none⟩=some vv->w2.cell? ⟨g,j,none⟩=some vv):=fun j vv h=>(L.cell (p:=⟨g,j,none⟩) Z).trans h;clear DG aa L;go_wp2_with fail;go_loopw [6,27] (fun u v wx=>∃j s:Nat,v= .int .i64 j/\j<=i/\s<=1000000000/\Hid (s=(T j).length)/\Hid (wx.ownsRow w0 5 1 u s (cZ .u8 (T j)))/\Hid (Below w0 w0 wx)) (fun _ v _=>i-(intOf v).toNat)
   case atStart=>exact⟨0,0,rfl,mw,mw,by rw[show T 0= [] from Q.out];rfl,by rw[show T 0= [] from Q.out];exact ag.out,Y.out⟩
   case round=>
    obtain⟨j,s2,rfl,hj,a0,HS,HO,HB⟩:=hrel;clear ag Y;by_cases E:j<i
    ·obtain⟨A,n,c,ls,hc,hn,hT,z,G⟩:=ac.out j E;rw[<-show s2=(T j).length from HS.out]at G;have q1:=ic ((j:Int)<i);have ar:=ic (j<i);have y0:(0:Int)<=(j:Int):=mw;have y1:(j:Int)<(i:Int):=mw;have u2:IntKind.i64.wrap ((j:Int)+1)=((j+1:Nat):Int):=m8;have ay:=(HB.out.cell (p:=⟨g,j,none⟩) Z).trans hc;have ah:=hid (z _ HB.out);have N:Hid (s2+n=(T (j+1)).length):=nK;have HT:=hid hT;have hz:=HB.out.size;have aj:Hid (∀u∈cZ .u8 ls,u.oneCell'=true):=fun u hu=>by unfold cZ at hu;obtain⟨x,_,rfl⟩:=Ck.1 hu;rfl
     clear z hT hn HS E hc;go_wp2_with(at_builtin;refine iZ rfl (.tmp 31) (.tmp 32) 28 rfl w0 5 j0 _ 1 1 underlying28 ai am ak an rfl ip _ _ _ mz HO.out _ _ _ _ mz ah.out aj.out pm mw hz ?_;intro v4 w4 M au aw);have av:Hid (w4.ownsRow w0 5 1 v4 (s2+n) (cZ .u8 (T (j+1)))):=ny;have aq:Hid (Below w0 w0 w4):=HB.out.grown au hz (fun y hy=>(Aj HO.out y hy).1);exact⟨⟨j+1,s2+n,rfl,mw,G,N.out,av.out,aq.out⟩,o7⟩
    ·obtain rfl:j=i:=by omega
     have q1:=ig ((j:Int)<j);have ar:=ig (j<j);go_wp2_with fail;go_ret;refine⟨_,rfl,?_,HB.out⟩;have h:=HO.out;rw[show s2=(T j).length from HS.out,show T j=R from U.out]at h;exact h
theorem RZ(w:World)(g m mc:Nat)(ps:List Part)(hm:ps.length=m)(z:m<=2000000)(hs:BI ps<=1000000000)(j:∀p∈ps,p.Ok w)(y:g<w.heap.size)(hg:∀i (h:i<ps.length),w.cell? ⟨g,i,none⟩=some ps[i].v):
 Calls prog 55 #[.slice (some ⟨g,0,none⟩) m mc] w fun e w'=>∃v,e= .returned v/\w'.ownsRow w 5 1 v (ps.flatMap Part.ls).length (cZ .u8 (ps.flatMap Part.ls))/\Below w w w':=by
 have D:=hid (Y4 w g m mc ps hm z hs j y hg);clear hm hs j hg y;go_enter func55,ntmps55;go_wp2_with fail;refine D.out.mono ?_;rintro e w2 ⟨v,rfl,ho,hb⟩;have HO:=hid ho;clear ho;go_wp2_with fail;go_ret;exact⟨_,rfl,HO.out,hb⟩
end NumPut
end Go.Proofs.YtfgdoknipbpfhaaGreatDoor

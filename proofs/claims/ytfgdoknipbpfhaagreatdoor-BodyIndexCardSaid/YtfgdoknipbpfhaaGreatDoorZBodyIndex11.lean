/- Numbers written: num -/
import Derived.Test.YtfgdoknipbpfhaaGreatDoorZBodyIndex3
import Derived.Lib.AppendZeros
namespace Go.Proofs.YtfgdoknipbpfhaaGreatDoor
open Go.Proofs.Tryz
open Go.Lib (hid)
set_option maxHeartbeats 2000000
set_option maxRecDepth 100000
variable{x:Nat}
namespace NumPut
open Go.RowKit Mem Own Canon
theorem He(k:IntKind)(l:List Nat)(x:Nat):bZ k (l++ [x])=bZ k l++ [.int k (x:Nat)]:=p7
def gZ(x:Nat):List Nat:=if x<128 then [x]else(x % 128+128) :: gZ (x / 128)
termination_by x
decreasing_by omega
theorem Fe(h:x<128):gZ x= [x]:=by rw[gZ,Ag h]
theorem Gd(h:¬x<128):gZ x=(x % 128+128) :: gZ (x / 128):=by rw[gZ,Ae h]
theorem Ev(x:Nat):∀y∈gZ x,y<=255:=by
 induction x using Nat.strongRecOn with
 |_ x ih=>
  by_cases h:x<128
  ·rw[Fe h];intro y hy;simp at hy;omega
  ·rw[Gd h];intro y hy;rcases BK.1 hy with rfl|hy
   ·omega
   ·exact ih (x / 128) nB y hy
theorem Uu:∀v:Nat,v<256->v |||128=v % 128+128:=ji
theorem num_any(w:World)(x:Nat)(hx:x<=100000):
 Calls prog 99 #[.int .u64 x] w fun e w'=>∃v,e= .returned v/\w'.ownsRow w 5 1 v (gZ x).length (bZ .u8 (gZ x))/\Below w w w':=by
 obtain⟨j0,Z,Y,N,U⟩:=info_parts CW;obtain⟨R,hR⟩:=jc (gZ x);have M:Hid ([]++gZ x=R):=hR.symm;rw[<-hR];clear hR;go_enter func99,ntmps99;go_wp2_with fail;go_loopw [0,3] (fun u v wr=>∃ (X k:Nat) (done:List Nat),u= .int .u64 X/\X+k<=100000/\Hid (done.length=k)/\Hid (done++gZ X=R)/\Hid (wr.ownsRow w 5 1 v k (bZ .u8 done))/\Hid (Below w w wr)) (fun u _ _=>(intOf u).toNat)
 case atStart=>exact⟨x,0,[],rfl,nB,rfl,M.out,AE _ _ _ _,Ak _ _⟩
 case round=>
  obtain⟨X,k,done,rfl,hk,HL,HR,HO,HB⟩:=hrel;clear M;have zb:=HB.out.size;by_cases E:X<128
  ·have g1:=jb ((128:Int)<=X);have aa:=jb (128<=X);have c1:IntKind.u8.wrap (X:Int)=(X:Int):=oj;have j:Hid (done++ [X]=R):=md;go_wp2_with(at_builtin;refine fZ rfl (.tmp 14) (.tmp 17) 28 rfl w 5 j0 _ 1 1 underlying28 Z Y N U rfl ji _ _ _ nC (HO.out.alloc _) _ 1 1 [.int .u8 (X:Nat)] nC (Src.of_blk (g:=wr.heap.size) (Blk.made _ _ _) 1 1 1 rfl) mY qn nB p5 ?_;intro v4 w4 i L Q);have J:Hid (w4.ownsRow w 5 1 v4 R.length (bZ .u8 R)):=nJ;have G:Hid (Below w w w4):=(cZ HB.out).grown L p5 (fun y hy=>(Ai HO.out y hy).1);go_ret;exact⟨_,rfl,J.out,G.out⟩
  ·have g1:=ja ((128:Int)<=X);have aa:=ja (128<=X);have c1:IntKind.u8.wrap (X:Int)=((X % 256:Nat):Int):=oj;have o1:bits .or .u8 ((X % 256:Nat):Int) 128=((X % 128+128:Nat):Int):=py;have j:Hid ((done++ [X % 128+128])++gZ (X / 128)=R):=mf;obtain⟨b,hb⟩:=jc (X % 128+128);obtain⟨a,ha⟩:=jc (X % 256);rw[<-hb]at o1 j;rw[<-ha]at o1 c1;clear hb ha;go_wp2_with(at_builtin;refine fZ rfl (.tmp 6) (.tmp 10) 28 rfl w 5 j0 _ 1 1 underlying28 Z Y N U rfl ji _ _ _ nC (HO.out.alloc _) _ 1 1 [.int .u8 (b:Nat)] nC (Src.of_blk (g:=wr.heap.size) (Blk.made _ _ _) 1 1 1 rfl) mY qn nB p5 ?_;intro v4 w4 i L Q);have ab:Hid (w4.ownsRow w 5 1 v4 (k+1) (bZ .u8 (done++ [b]))):=(by rw[He];exact i);have G:Hid (Below w w w4):=(cZ HB.out).grown L p5 (fun y hy=>(Ai HO.out y hy).1);exact⟨⟨X / 128,k+1,done++ [b],AM _ nB,nB,pJ,j.out,ab.out,G.out⟩,qc⟩
theorem OK(w:World)(x:Nat)(hx:x<=100000):
 Calls prog 77 #[.int .u64 x] w fun e w'=>∃v,e= .returned v/\w'.ownsRow w 5 1 v (gZ x).length (bZ .u8 (gZ x))/\Below w w w':=by
 obtain⟨j0,Z,Y,N,U⟩:=info_parts CW;obtain⟨R,hR⟩:=jc (gZ x);have M:Hid ([]++gZ x=R):=hR.symm;rw[<-hR];clear hR;go_enter func77,ntmps77;go_wp2_with fail;go_loopw [0,3] (fun u v wr=>∃ (X k:Nat) (done:List Nat),u= .int .u64 X/\X+k<=100000/\Hid (done.length=k)/\Hid (done++gZ X=R)/\Hid (wr.ownsRow w 5 1 v k (bZ .u8 done))/\Hid (Below w w wr)) (fun u _ _=>(intOf u).toNat)
 case atStart=>exact⟨x,0,[],rfl,nB,rfl,M.out,AE _ _ _ _,Ak _ _⟩
 case round=>
  obtain⟨X,k,done,rfl,hk,HL,HR,HO,HB⟩:=hrel;clear M;have zb:=HB.out.size;by_cases E:X<128
  ·have g1:=jb ((128:Int)<=X);have aa:=jb (128<=X);have c1:IntKind.u8.wrap (X:Int)=(X:Int):=oj;have j:Hid (done++ [X]=R):=md;go_wp2_with(at_builtin;refine fZ rfl (.tmp 15) (.tmp 18) 28 rfl w 5 j0 _ 1 1 underlying28 Z Y N U rfl ji _ _ _ nC (HO.out.alloc _) _ 1 1 [.int .u8 (X:Nat)] nC (Src.of_blk (g:=wr.heap.size) (Blk.made _ _ _) 1 1 1 rfl) mY qn nB p5 ?_;intro v4 w4 i L Q);have J:Hid (w4.ownsRow w 5 1 v4 R.length (bZ .u8 R)):=nJ;have G:Hid (Below w w w4):=(cZ HB.out).grown L p5 (fun y hy=>(Ai HO.out y hy).1);go_ret;exact⟨_,rfl,J.out,G.out⟩
  ·have g1:=ja ((128:Int)<=X);have aa:=ja (128<=X);have c1:IntKind.u64.wrap (128+(X:Int) % 128)=((X % 128+128:Nat):Int):=pn;have c2:IntKind.u8.wrap ((X % 128+128:Nat):Int)=((X % 128+128:Nat):Int):=oj;have j:Hid ((done++ [X % 128+128])++gZ (X / 128)=R):=mf;obtain⟨b,hb⟩:=jc (X % 128+128);rw[<-hb]at c1 c2 j;clear hb;go_wp2_with(at_builtin;refine fZ rfl (.tmp 6) (.tmp 11) 28 rfl w 5 j0 _ 1 1 underlying28 Z Y N U rfl ji _ _ _ nC (HO.out.alloc _) _ 1 1 [.int .u8 (b:Nat)] nC (Src.of_blk (g:=wr.heap.size) (Blk.made _ _ _) 1 1 1 rfl) mY qn nB p5 ?_;intro v4 w4 i L Q);have ab:Hid (w4.ownsRow w 5 1 v4 (k+1) (bZ .u8 (done++ [b]))):=(by rw[He];exact i);have G:Hid (Below w w w4):=(cZ HB.out).grown L p5 (fun y hy=>(Ai HO.out y hy).1);exact⟨⟨X / 128,k+1,done++ [b],AM _ nB,nB,pJ,j.out,ab.out,G.out⟩,qc⟩
end NumPut
namespace NumPut
open Go.RowKit Mem Own Canon
theorem i5(w:World)(n:Nat)(hn:n<=1000000):
 Calls prog 185 #[(),n] w fun e w'=>∃v,e= .returned v/\w'.ownsRow w 5 1 v 0 []/\Below w w w':=by
 obtain⟨j0,h,j,E,i⟩:=info_parts CW;by_cases h0:n=0
 ·subst h0;go_enter func185,ntmps185;go_wp2_with fail;go_ret;exact⟨_,rfl,AE _ _ _ _,Ak _ _⟩
 ·have g0:=jb ((n:Int)<0)
  have g1:=ja ((0:Int)<n)
  have J:=ja (0<n)
  have s1:IntKind.i64.wrap (n:Int)=(n:Int):=Az _ nB;have s2:IntKind.i64.wrap ((n:Int)-0)=(n:Int):=nX
  have hr:=Lib.run_append_nil_zeros (P:=prog) w 28 3 28 5 j0 _ .i64 .i64 underlying28 underlying3 h j n nB nB nB (by rw[i];omega);have hG:=grownCap_le_maxLen w n 0 5 qn;have L:=grownCap_ge w n 0 5;generalize grownCap w n 0 5=G at *;go_enter func185,ntmps185;go_wp2_with(at_builtin;refine Lib.wpList_append_run _ rfl (.tmp 20) (.tmp 21) 28 3 rfl _ _ nC nC _ _ hr ?_);go_ret;refine⟨_,rfl,⟨pR, .inr ⟨w.heap.size,G,_,rfl,Am _,heap_alloc_new w _,nB,hG,?_,pR⟩⟩,qo⟩;simp[Builtin.zeroCells];omega
structure Part where
 A:Option Addr
 c:Nat
 ls:List Nat
def Part.v(p:Part):Value:= .slice p.A p.ls.length p.c
structure Part.Ok (p:Part) (w:World):Prop where
 row:Row w w p.A p.ls.length 1 (kZ .u8 p.ls)
 nil:p.A=none->p.ls.length=0/\p.c=0
theorem Part.Ok.step{p:Part}{w w':World}(h:p.Ok w)(hb:Below w w w'):p.Ok w':=⟨(h.row.below hb).mono hb.size,h.nil⟩
def FK(ps:List Part):Nat:=(ps.flatMap Part.ls).length
theorem Zl(w:World)(g m:Nat)(ps:List Part)(hm:ps.length=m)(a1:m<=8)(hs:FK ps<=1000000)(ai:∀p∈ps,p.Ok w)(hg:Blk w g 28 (ps.map Part.v).toArray):
 Calls prog 109 #[.slice (some ⟨g,0,none⟩) m m] w fun e w'=>∃v,e= .returned v/\w'.ownsRow w 5 1 v (ps.flatMap Part.ls).length (bZ .u8 (ps.flatMap Part.ls))/\Below w w w':=by
 obtain⟨j0,aw,an,au,av⟩:=info_parts CW
 have HP:Hid (∀i,i<m->∃A n c ls,w.cell? ⟨g,i,none⟩=some (.slice A n c)/\List.length ls=n/\(ps.take (i+1)).flatMap Part.ls=(ps.take i).flatMap Part.ls++ls/\(∀wx,Below w w wx->Src wx A n c 1 (bZ .u8 ls))/\((ps.take i).flatMap Part.ls).length+n<=1000000):=fun i hi=>by
  have L:i<ps.length:=nB
  have hp:=ai _ (GI L);refine⟨ps[i].A,ps[i].ls.length,ps[i].c,ps[i].ls,?_,rfl,?_,fun wx hb=>J0 (hp.step hb).row rfl hp.nil,?_⟩
  ·rw[hg.cell i];simp[L,Part.v]
  ·rw[List.take_succ_eq_append_getElem L,I9];simp
  ·have e:ps.flatMap Part.ls=(ps.take i).flatMap Part.ls++ps[i].ls++(ps.drop (i+1)).flatMap Part.ls:=(by conv=>lhs;rw[<-EX i ps,I9,Dx L,Dm,<-AK]);unfold FK at hs;rw[e]at hs;simp at hs;simp;omega
 have HE:Hid ((ps.take m).flatMap Part.ls=ps.flatMap Part.ls):=by rw[Bp nB];exact rfl
 have af:=hg.lt;have H0:Hid ((ps.take 0).flatMap Part.ls= []):=by rw[List.take_zero];exact rfl
 have Y:Hid ((ps.flatMap Part.ls).length<=1000000):=hs;obtain⟨R,hR⟩:=jc (ps.flatMap Part.ls);rw[<-hR]at HE Y ⊢;obtain⟨T,hT⟩:∃T:Nat->List Nat,T=fun i=>(ps.take i).flatMap Part.ls:=⟨_,rfl⟩;have aa:Hid (∀i,i<m->∃A n c ls,w.cell? ⟨g,i,none⟩=some (.slice A n c)/\List.length ls=n/\T (i+1)=T i++ls/\(∀wx,Below w w wx->Src wx A n c 1 (bZ .u8 ls))/\(T i).length+n<=1000000):=by rw[hT];exact HP
 have ab:Hid (T m=R):=by rw[hT];exact HE
 have U:Hid (T 0= []):=by rw[hT];exact H0
 clear HP HE H0 hR hT ai hg hs hm;have a0:IntKind.i64.wrap (m:Int)=(m:Int):=Az _ nB;go_enter func109,ntmps109;go_wp2_with fail;go_loopw [3,11] (fun u v wr=>∃i s:Nat,u= .int .i64 s/\v= .int .i64 i/\i<=m/\Hid (s=(T i).length)/\wr=w) (fun _ v _=>m-(intOf v).toNat)
 case atStart=>exact⟨0,0,rfl,rfl,nB,pq,rfl⟩
 case round=>
  obtain⟨i,s,rfl,rfl,hi,HS,rfl⟩:=hrel;by_cases G:i<m
  ·obtain⟨A,n,c,ls,hc,hn,hT,E,J⟩:=aa.out i G;rw[<-show s=(T i).length from HS.out]at J;have g1:=ja ((i:Int)<m);have aj:=ja (i<m);have y0:(0:Int)<=(i:Int):=nB;have y1:(i:Int)<(m:Int):=nB;have s1:IntKind.i64.wrap ((s:Int)+(n:Int))=((s+n:Nat):Int):=nX;have s2:IntKind.i64.wrap ((i:Int)+1)=((i+1:Nat):Int):=nX;have g2:=jb (((s+n:Nat):Int)<0);have M:Hid (s+n=(T (i+1)).length):=o9;generalize s+n=s' at *;clear E hT hn HS G;go_wp2_with fail;go_roundw
   case measure=>exact ld
   case rel=>exact jw
  ·obtain rfl:i=m:=by omega
   have g1:=jb ((i:Int)<i);have aj:=jb (i<i);have ag:s<=1000000:=mp;obtain⟨w0,rfl⟩:=jc wr;have DG:=hid (i5 w0 s ag);clear HS;go_wp2_with fail;refine DG.out.mono ?_;rintro e w2 ⟨v2,rfl,ah,N⟩;have ae:Hid (w2.ownsRow w0 5 1 v2 0 (bZ .u8 [])):=ah;have ac:=hid N;have a3:Hid (∀j vv,w0.cell? ⟨g,j,none⟩=some vv->w2.cell? ⟨g,j,none⟩=some vv):=fun j vv h=>(N.cell (p:=⟨g,j,none⟩) af).trans h;clear DG ah N;go_wp2_with fail;go_loopw [6,27] (fun u v wx=>∃j s:Nat,v= .int .i64 j/\j<=i/\s<=1000000/\Hid (s=(T j).length)/\Hid (wx.ownsRow w0 5 1 u s (bZ .u8 (T j)))/\Hid (Below w0 w0 wx)) (fun _ v _=>i-(intOf v).toNat)
   case atStart=>exact⟨0,0,rfl,nB,nB,pq,by rw[show T 0= [] from U.out];exact ae.out,ac.out⟩
   case round=>
    obtain⟨j,s2,rfl,hj,az,HS,HO,HB⟩:=hrel;clear ae ac;by_cases G:j<i
    ·obtain⟨A,n,c,ls,hc,hn,hT,E,J⟩:=aa.out j G;rw[<-show s2=(T j).length from HS.out]at J;have q1:=ja ((j:Int)<i);have am:=ja (j<i);have y0:(0:Int)<=(j:Int):=nB;have y1:(j:Int)<(i:Int):=nB;have u2:IntKind.i64.wrap ((j:Int)+1)=((j+1:Nat):Int):=nX;have ay:=(HB.out.cell (p:=⟨g,j,none⟩) af).trans hc;have Z:=hid (E _ HB.out);have M:Hid (s2+n=(T (j+1)).length):=o8;have HT:=hid hT;have hz:=HB.out.size;have ar:Hid (∀u∈bZ .u8 ls,u.oneCell'=true):=fun u hu=>by unfold bZ at hu;obtain⟨x,_,rfl⟩:=Cl.1 hu;rfl
     clear E hT hn HS G hc;go_wp2_with(at_builtin;refine fZ rfl (.tmp 31) (.tmp 32) 28 rfl w0 5 j0 _ 1 1 underlying28 aw an au av rfl ji _ _ _ nC HO.out _ _ _ _ nC Z.out ar.out qn nB hz ?_;intro v4 w4 Q aq ax);have al:Hid (w4.ownsRow w0 5 1 v4 (s2+n) (bZ .u8 (T (j+1)))):=oG;have ak:Hid (Below w0 w0 w4):=HB.out.grown aq hz (fun y hy=>(Ai HO.out y hy).1);exact⟨⟨j+1,s2+n,rfl,nB,J,M.out,al.out,ak.out⟩,qc⟩
    ·obtain rfl:j=i:=by omega
     have q1:=jb ((j:Int)<j);have am:=jb (j<j);go_wp2_with fail;go_ret;refine⟨_,rfl,?_,HB.out⟩;have h:=HO.out;rw[show s2=(T j).length from HS.out,show T j=R from ab.out]at h;exact h
theorem O8(w:World)(g m:Nat)(ps:List Part)(hm:ps.length=m)(i:m<=8)(hs:FK ps<=1000000)(h:∀p∈ps,p.Ok w)(hg:Blk w g 28 (ps.map Part.v).toArray):
 Calls prog 55 #[.slice (some ⟨g,0,none⟩) m m] w fun e w'=>∃v,e= .returned v/\w'.ownsRow w 5 1 v (ps.flatMap Part.ls).length (bZ .u8 (ps.flatMap Part.ls))/\Below w w w':=by
 have D:=hid (Zl w g m ps hm i hs h hg);clear hm hs h hg;go_enter func55,ntmps55;go_wp2_with fail;refine D.out.mono ?_;rintro e w2 ⟨v,rfl,ho,hb⟩;have HO:=hid ho;clear ho;go_wp2_with fail;go_ret;exact⟨_,rfl,HO.out,hb⟩
end NumPut
namespace Ef
open Huff (msb bytesOf)
open NumPut (gZ)
def efW(bound n:Nat):Nat:=Nat.log2 (bound / n)
def unary(n:Nat):List Bool:=List.replicate n false++ [true]
def Dz:Nat->List Nat->List Bool
 |_,[]=> []
 |was,x :: t=>unary (x-was)++Dz x t
def Dj(w:Nat)(ids:List Nat):List Bool:=ids.flatMap fun x=>msb (x % 2 ^ w) w w
def FU(w:Nat)(ids:List Nat):List Bool:=Dj w ids++Dz 0 (ids.map (·/ 2 ^ w))
def efO(bound:Nat)(ids:List Nat):List Nat:=if ids= []then gZ 0 else gZ ids.length++bytesOf (FU (efW bound ids.length) ids)
theorem Kn(n:Nat):(unary n).length=n+1:=by simp[unary]
theorem Y1(w:Nat)(l:List Nat)(x:Nat):Dj w (l++ [x])=Dj w l++msb (x % 2 ^ w) w w:=by simp[Dj]
theorem Tv:∀ (l:List Nat) (h x:Nat),Dz h (l++ [x])=Dz h l++unary (x-(l.getLast?.getD h))
 | [],h,x=>by simp[Dz]
 |y :: t,h,x=>by
  rw[En,Dz,Tv t y x,Dz,AK];congr 3;cases t with
  |nil=>rfl
  |cons z s=>simp[List.getLast?_cons]
theorem Kb{q:Nat}(h:q≠0):2 ^ Nat.log2 q<=q:=Nat.log2_self_le h
theorem Zt(q:Nat):q<2 ^ (Nat.log2 q+1):=Nat.lt_log2_self
end Ef
namespace NumPut
open Go.RowKit Mem Own Canon
theorem Ws(w:World)(n:Nat)(hn:n<=1000000000):
 Calls prog 185 #[(),n] w fun e w'=>∃v,e= .returned v/\w'.ownsRow w 5 1 v 0 []/\Below w w w':=by
 obtain⟨j0,h,j,E,i⟩:=info_parts CW;by_cases h0:n=0
 ·subst h0;go_enter func185,ntmps185;go_wp2_with fail;go_ret;exact⟨_,rfl,AE _ _ _ _,Ak _ _⟩
 ·have g0:=jb ((n:Int)<0)
  have g1:=ja ((0:Int)<n)
  have J:=ja (0<n)
  have s1:IntKind.i64.wrap (n:Int)=(n:Int):=Az _ nB;have s2:IntKind.i64.wrap ((n:Int)-0)=(n:Int):=nX
  have hr:=Lib.run_append_nil_zeros (P:=prog) w 28 3 28 5 j0 _ .i64 .i64 underlying28 underlying3 h j n nB nB nB (by rw[i];omega);have hG:=grownCap_le_maxLen w n 0 5 qn;have L:=grownCap_ge w n 0 5;generalize grownCap w n 0 5=G at *;go_enter func185,ntmps185;go_wp2_with(at_builtin;refine Lib.wpList_append_run _ rfl (.tmp 20) (.tmp 21) 28 3 rfl _ _ nC nC _ _ hr ?_);go_ret;refine⟨_,rfl,⟨pR, .inr ⟨w.heap.size,G,_,rfl,Am _,heap_alloc_new w _,nB,hG,?_,pR⟩⟩,qo⟩;simp[Builtin.zeroCells];omega
theorem YI(w:World)(g m mc:Nat)(ps:List Part)(hm:ps.length=m)(a1:m<=2000000)(hs:FK ps<=1000000000)(ai:∀p∈ps,p.Ok w)(af:g<w.heap.size)(hg:∀i (h:i<ps.length),w.cell? ⟨g,i,none⟩=some ps[i].v):
 Calls prog 109 #[.slice (some ⟨g,0,none⟩) m mc] w fun e w'=>∃v,e= .returned v/\w'.ownsRow w 5 1 v (ps.flatMap Part.ls).length (bZ .u8 (ps.flatMap Part.ls))/\Below w w w':=by
 obtain⟨j0,aw,an,au,av⟩:=info_parts CW
 have HP:Hid (∀i,i<m->∃A n c ls,w.cell? ⟨g,i,none⟩=some (.slice A n c)/\List.length ls=n/\(ps.take (i+1)).flatMap Part.ls=(ps.take i).flatMap Part.ls++ls/\(∀wx,Below w w wx->Src wx A n c 1 (bZ .u8 ls))/\((ps.take i).flatMap Part.ls).length+n<=1000000000):=fun i hi=>by
  have L:i<ps.length:=nB
  have hp:=ai _ (GI L);refine⟨ps[i].A,ps[i].ls.length,ps[i].c,ps[i].ls,?_,rfl,?_,fun wx hb=>J0 (hp.step hb).row rfl hp.nil,?_⟩
  ·rw[hg i L];rfl
  ·rw[List.take_succ_eq_append_getElem L,I9];simp
  ·have e:ps.flatMap Part.ls=(ps.take i).flatMap Part.ls++ps[i].ls++(ps.drop (i+1)).flatMap Part.ls:=(by conv=>lhs;rw[<-EX i ps,I9,Dx L,Dm,<-AK]);unfold FK at hs;rw[e]at hs;simp at hs;simp;omega
 have HE:Hid ((ps.take m).flatMap Part.ls=ps.flatMap Part.ls):=by rw[Bp nB];exact rfl
 have H0:Hid ((ps.take 0).flatMap Part.ls= []):=by rw[List.take_zero];exact rfl
 have Y:Hid ((ps.flatMap Part.ls).length<=1000000000):=hs;obtain⟨R,hR⟩:=jc (ps.flatMap Part.ls);rw[<-hR]at HE Y ⊢;obtain⟨T,hT⟩:∃T:Nat->List Nat,T=fun i=>(ps.take i).flatMap Part.ls:=⟨_,rfl⟩;have aa:Hid (∀i,i<m->∃A n c ls,w.cell? ⟨g,i,none⟩=some (.slice A n c)/\List.length ls=n/\T (i+1)=T i++ls/\(∀wx,Below w w wx->Src wx A n c 1 (bZ .u8 ls))/\(T i).length+n<=1000000000):=by rw[hT];exact HP
 have ab:Hid (T m=R):=by rw[hT];exact HE
 have U:Hid (T 0= []):=by rw[hT];exact H0
 clear HP HE H0 hR hT ai hg hs hm;have a0:IntKind.i64.wrap (m:Int)=(m:Int):=Az _ nB;go_enter func109,ntmps109;go_wp2_with fail;go_loopw [3,11] (fun u v wr=>∃i s:Nat,u= .int .i64 s/\v= .int .i64 i/\i<=m/\Hid (s=(T i).length)/\wr=w) (fun _ v _=>m-(intOf v).toNat)
 case atStart=>exact⟨0,0,rfl,rfl,nB,pq,rfl⟩
 case round=>
  obtain⟨i,s,rfl,rfl,hi,HS,rfl⟩:=hrel;by_cases G:i<m
  ·obtain⟨A,n,c,ls,hc,hn,hT,E,J⟩:=aa.out i G;rw[<-show s=(T i).length from HS.out]at J;have g1:=ja ((i:Int)<m);have aj:=ja (i<m);have y0:(0:Int)<=(i:Int):=nB;have y1:(i:Int)<(m:Int):=nB;have s1:IntKind.i64.wrap ((s:Int)+(n:Int))=((s+n:Nat):Int):=nX;have s2:IntKind.i64.wrap ((i:Int)+1)=((i+1:Nat):Int):=nX;have g2:=jb (((s+n:Nat):Int)<0);have M:Hid (s+n=(T (i+1)).length):=o9;generalize s+n=s' at *;clear E hT hn HS G;go_wp2_with fail;go_roundw
   case measure=>exact ld
   case rel=>exact jw
  ·obtain rfl:i=m:=by omega
   have g1:=jb ((i:Int)<i);have aj:=jb (i<i);have ag:s<=1000000000:=mp;obtain⟨w0,rfl⟩:=jc wr;have DG:=hid (Ws w0 s ag);clear HS;go_wp2_with fail;refine DG.out.mono ?_;rintro e w2 ⟨v2,rfl,ah,N⟩;have ae:Hid (w2.ownsRow w0 5 1 v2 0 (bZ .u8 [])):=ah;have ac:=hid N;have a3:Hid (∀j vv,w0.cell? ⟨g,j,none⟩=some vv->w2.cell? ⟨g,j,none⟩=some vv):=fun j vv h=>(N.cell (p:=⟨g,j,none⟩) af).trans h;clear DG ah N;go_wp2_with fail;go_loopw [6,27] (fun u v wx=>∃j s:Nat,v= .int .i64 j/\j<=i/\s<=1000000000/\Hid (s=(T j).length)/\Hid (wx.ownsRow w0 5 1 u s (bZ .u8 (T j)))/\Hid (Below w0 w0 wx)) (fun _ v _=>i-(intOf v).toNat)
   case atStart=>exact⟨0,0,rfl,nB,nB,pq,by rw[show T 0= [] from U.out];exact ae.out,ac.out⟩
   case round=>
    obtain⟨j,s2,rfl,hj,az,HS,HO,HB⟩:=hrel;clear ae ac;by_cases G:j<i
    ·obtain⟨A,n,c,ls,hc,hn,hT,E,J⟩:=aa.out j G;rw[<-show s2=(T j).length from HS.out]at J;have q1:=ja ((j:Int)<i);have am:=ja (j<i);have y0:(0:Int)<=(j:Int):=nB;have y1:(j:Int)<(i:Int):=nB;have u2:IntKind.i64.wrap ((j:Int)+1)=((j+1:Nat):Int):=nX;have ay:=(HB.out.cell (p:=⟨g,j,none⟩) af).trans hc;have Z:=hid (E _ HB.out);have M:Hid (s2+n=(T (j+1)).length):=o8;have HT:=hid hT;have hz:=HB.out.size;have ar:Hid (∀u∈bZ .u8 ls,u.oneCell'=true):=fun u hu=>by unfold bZ at hu;obtain⟨x,_,rfl⟩:=Cl.1 hu;rfl
     clear E hT hn HS G hc;go_wp2_with(at_builtin;refine fZ rfl (.tmp 31) (.tmp 32) 28 rfl w0 5 j0 _ 1 1 underlying28 aw an au av rfl ji _ _ _ nC HO.out _ _ _ _ nC Z.out ar.out qn nB hz ?_;intro v4 w4 Q aq ax);have al:Hid (w4.ownsRow w0 5 1 v4 (s2+n) (bZ .u8 (T (j+1)))):=oG;have ak:Hid (Below w0 w0 w4):=HB.out.grown aq hz (fun y hy=>(Ai HO.out y hy).1);exact⟨⟨j+1,s2+n,rfl,nB,J,M.out,al.out,ak.out⟩,qc⟩
    ·obtain rfl:j=i:=by omega
     have q1:=jb ((j:Int)<j);have am:=jb (j<j);go_wp2_with fail;go_ret;refine⟨_,rfl,?_,HB.out⟩;have h:=HO.out;rw[show s2=(T j).length from HS.out,show T j=R from ab.out]at h;exact h
theorem SU(w:World)(g m mc:Nat)(ps:List Part)(hm:ps.length=m)(G:m<=2000000)(hs:FK ps<=1000000000)(E:∀p∈ps,p.Ok w)(j:g<w.heap.size)(hg:∀i (h:i<ps.length),w.cell? ⟨g,i,none⟩=some ps[i].v):
 Calls prog 55 #[.slice (some ⟨g,0,none⟩) m mc] w fun e w'=>∃v,e= .returned v/\w'.ownsRow w 5 1 v (ps.flatMap Part.ls).length (bZ .u8 (ps.flatMap Part.ls))/\Below w w w':=by
 have D:=hid (YI w g m mc ps hm G hs E j hg);clear hm hs E hg j;go_enter func55,ntmps55;go_wp2_with fail;refine D.out.mono ?_;rintro e w2 ⟨v,rfl,ho,hb⟩;have HO:=hid ho;clear ho;go_wp2_with fail;go_ret;exact⟨_,rfl,HO.out,hb⟩
end NumPut
end Go.Proofs.YtfgdoknipbpfhaaGreatDoor

/- Numbers written: num -/
import Derived.Test.YtfgdoknipbpfhaaGreatDoorZBodyOpened3
import Derived.Lib.AppendZeros
namespace Go.Proofs.YtfgdoknipbpfhaaGreatDoor
open Go.Proofs.Tryz
open Go.Lib (hid)
set_option maxHeartbeats 2000000
set_option maxRecDepth 100000
variable{x:Nat}
namespace NumPut
open Go.RowKit Mem Own Canon
theorem Ji(k:IntKind)(l:List Nat)(x:Nat):cZ k (l++ [x])=cZ k l++ [.int k (x:Nat)]:=pT
def fZ(x:Nat):List Nat:=if x<128 then [x]else(x % 128+128) :: fZ (x / 128)
termination_by x
decreasing_by omega
theorem EW(h:x<128):fZ x= [x]:=by rw[fZ,Ae h]
theorem Gi(h:¬x<128):fZ x=(x % 128+128) :: fZ (x / 128):=by rw[fZ,Ab h]
theorem CY(x:Nat):∀y∈fZ x,y<=255:=by
 induction x using Nat.strongRecOn with
 |_ x ih=>
  by_cases h:x<128
  ·rw[EW h];intro y hy;simp at hy;omega
  ·rw[Gi h];intro y hy;rcases AQ.1 hy with rfl|hy
   ·omega
   ·exact ih (x / 128) mz y hy
theorem Rq:∀v:Nat,v<256->v |||128=v % 128+128:=ip
theorem num_any(w:World)(x:Nat)(hx:x<=100000):
 Calls prog 99 #[.int .u64 x] w fun e w'=>∃v,e= .returned v/\w'.ownsRow w 5 1 v (fZ x).length (cZ .u8 (fZ x))/\Below w w w':=by
 obtain⟨j0,U,Y,N,Q⟩:=info_parts Eo;obtain⟨R,hR⟩:=ii (fZ x);have Z:Hid ([]++fZ x=R):=hR.symm;rw[<-hR];clear hR;go_enter func99,ntmps99;go_wp2_with fail;go_loopw [0,3] (fun u v wr=>∃ (X k:Nat) (done:List Nat),u= .int .u64 X/\X+k<=100000/\Hid (done.length=k)/\Hid (done++fZ X=R)/\Hid (wr.ownsRow w 5 1 v k (cZ .u8 done))/\Hid (Below w w wr)) (fun u _ _=>(intOf u).toNat)
 case atStart=>exact⟨x,0,[],rfl,mz,rfl,Z.out,AK _ _ _ _,Ag _ _⟩
 case round=>
  obtain⟨X,k,done,rfl,hk,HL,HR,HO,HB⟩:=hrel;clear Z;have zb:=HB.out.size;by_cases z:X<128
  ·have g1:=ig ((128:Int)<=X);have aa:=ig (128<=X);have c1:IntKind.u8.wrap (X:Int)=(X:Int):=oF;have j:Hid (done++ [X]=R):=ka;go_wp2_with(at_builtin;refine iZ rfl (.tmp 14) (.tmp 17) 28 rfl w 5 j0 _ 1 1 underlying28 U Y N Q rfl ip _ _ _ nc (HO.out.alloc _) _ 1 1 [.int .u8 (X:Nat)] nc (Src.of_blk (g:=wr.heap.size) (Blk.made _ _ _) 1 1 1 rfl) mj qg mz pQ ?_;intro v4 w4 i J M);have G:Hid (w4.ownsRow w 5 1 v4 R.length (cZ .u8 R)):=nk;have E:Hid (Below w w w4):=(aZ HB.out).grown J pQ (fun y hy=>(Am HO.out y hy).1);go_ret;exact⟨_,rfl,G.out,E.out⟩
  ·have g1:=ic ((128:Int)<=X);have aa:=ic (128<=X);have c1:IntKind.u8.wrap (X:Int)=((X % 256:Nat):Int):=oF;have o1:bits .or .u8 ((X % 256:Nat):Int) 128=((X % 128+128:Nat):Int):=pj;have j:Hid ((done++ [X % 128+128])++fZ (X / 128)=R):=ke;obtain⟨b,hb⟩:=ii (X % 128+128);obtain⟨a,ha⟩:=ii (X % 256);rw[<-hb]at o1 j;rw[<-ha]at o1 c1;clear hb ha;go_wp2_with(at_builtin;refine iZ rfl (.tmp 6) (.tmp 10) 28 rfl w 5 j0 _ 1 1 underlying28 U Y N Q rfl ip _ _ _ nc (HO.out.alloc _) _ 1 1 [.int .u8 (b:Nat)] nc (Src.of_blk (g:=wr.heap.size) (Blk.made _ _ _) 1 1 1 rfl) mj qg mz pQ ?_;intro v4 w4 i J M);have ab:Hid (w4.ownsRow w 5 1 v4 (k+1) (cZ .u8 (done++ [b]))):=(by rw[Ji];exact i);have E:Hid (Below w w w4):=(aZ HB.out).grown J pQ (fun y hy=>(Am HO.out y hy).1);exact⟨⟨X / 128,k+1,done++ [b],AE _ mz,mz,py,j.out,ab.out,E.out⟩,pY⟩
end NumPut
namespace NumPut
open Go.RowKit Mem Own Canon
theorem lY(w:World)(n:Nat)(hn:n<=1000000):
 Calls prog 185 #[(),n] w fun e w'=>∃v,e= .returned v/\w'.ownsRow w 5 1 v 0 []/\Below w w w':=by
 obtain⟨j0,i,h,z,j⟩:=info_parts Eo;by_cases h0:n=0
 ·subst h0;go_enter func185,ntmps185;go_wp2_with fail;go_ret;exact⟨_,rfl,AK _ _ _ _,Ag _ _⟩
 ·have g0:=ig ((n:Int)<0)
  have g1:=ic ((0:Int)<n)
  have y:=ic (0<n)
  have s1:IntKind.i64.wrap (n:Int)=(n:Int):=Aw _ mz;have s2:IntKind.i64.wrap ((n:Int)-0)=(n:Int):=nW
  have hr:=Lib.run_append_nil_zeros (P:=prog) w 28 3 28 5 j0 _ .i64 .i64 underlying28 underlying3 i h n mz mz mz o7;have hG:=grownCap_le_maxLen w n 0 5 qg;have E:=grownCap_ge w n 0 5;generalize grownCap w n 0 5=G at *;go_enter func185,ntmps185;go_wp2_with(at_builtin;refine Lib.wpList_append_run _ rfl (.tmp 20) (.tmp 21) 28 3 rfl _ _ nc nc _ _ hr ?_);go_ret;refine⟨_,rfl,⟨pI, .inr ⟨w.heap.size,G,_,rfl,Aq _,heap_alloc_new w _,mz,hG,?_,pI⟩⟩,qh⟩;simp[Builtin.zeroCells];omega
structure Part where
 A:Option Addr
 c:Nat
 ls:List Nat
def Part.v(p:Part):Value:= .slice p.A p.ls.length p.c
structure Part.Ok (p:Part) (w:World):Prop where
 row:Row w w p.A p.ls.length 1 (jZ .u8 p.ls)
 nil:p.A=none->p.ls.length=0/\p.c=0
theorem Part.Ok.step{p:Part}{w w':World}(h:p.Ok w)(hb:Below w w w'):p.Ok w':=⟨(h.row.below hb).mono hb.size,h.nil⟩
def BM(ps:List Part):Nat:=(ps.flatMap Part.ls).length
theorem fE(w:World)(g m:Nat)(ps:List Part)(hm:ps.length=m)(a0:m<=8)(hs:BM ps<=1000000)(ag:∀p∈ps,p.Ok w)(hg:Blk w g 28 (ps.map Part.v).toArray):
 Calls prog 109 #[.slice (some ⟨g,0,none⟩) m m] w fun e w'=>∃v,e= .returned v/\w'.ownsRow w 5 1 v (ps.flatMap Part.ls).length (cZ .u8 (ps.flatMap Part.ls))/\Below w w w':=by
 obtain⟨j0,av,aw,am,an⟩:=info_parts Eo
 have HP:Hid (∀i,i<m->∃A n c ls,w.cell? ⟨g,i,none⟩=some (.slice A n c)/\List.length ls=n/\(ps.take (i+1)).flatMap Part.ls=(ps.take i).flatMap Part.ls++ls/\(∀wx,Below w w wx->Src wx A n c 1 (cZ .u8 ls))/\((ps.take i).flatMap Part.ls).length+n<=1000000):=fun i hi=>by
  have J:i<ps.length:=mz
  have hp:=ag _ (Fo J);refine⟨ps[i].A,ps[i].ls.length,ps[i].c,ps[i].ls,?_,rfl,?_,fun wx hb=>KK (hp.step hb).row rfl hp.nil,?_⟩
  ·rw[hg.cell i];simp[J,Part.v]
  ·rw[List.take_succ_eq_append_getElem J,Ix];simp
  ·have e:ps.flatMap Part.ls=(ps.take i).flatMap Part.ls++ps[i].ls++(ps.drop (i+1)).flatMap Part.ls:=(by conv=>lhs;rw[<-EM i ps,Ix,Df J,Ct,<-AJ]);unfold BM at hs;rw[e]at hs;simp at hs;simp;omega
 have HE:Hid ((ps.take m).flatMap Part.ls=ps.flatMap Part.ls):=by rw[BV mz];exact rfl
 have aa:=hg.lt;have H0:Hid ((ps.take 0).flatMap Part.ls= []):=by rw[List.take_zero];exact rfl
 have ah:Hid ((ps.flatMap Part.ls).length<=1000000):=hs;obtain⟨R,hR⟩:=ii (ps.flatMap Part.ls);rw[<-hR]at HE ah ⊢;obtain⟨T,hT⟩:∃T:Nat->List Nat,T=fun i=>(ps.take i).flatMap Part.ls:=⟨_,rfl⟩;have ac:Hid (∀i,i<m->∃A n c ls,w.cell? ⟨g,i,none⟩=some (.slice A n c)/\List.length ls=n/\T (i+1)=T i++ls/\(∀wx,Below w w wx->Src wx A n c 1 (cZ .u8 ls))/\(T i).length+n<=1000000):=by rw[hT];exact HP
 have ab:Hid (T m=R):=by rw[hT];exact HE
 have Q:Hid (T 0= []):=by rw[hT];exact H0
 clear HP HE H0 hR hT ag hg hs hm;have a3:IntKind.i64.wrap (m:Int)=(m:Int):=Aw _ mz;go_enter func109,ntmps109;go_wp2_with fail;go_loopw [3,11] (fun u v wr=>∃i s:Nat,u= .int .i64 s/\v= .int .i64 i/\i<=m/\Hid (s=(T i).length)/\wr=w) (fun _ v _=>m-(intOf v).toNat)
 case atStart=>exact⟨0,0,rfl,rfl,mz,pg,rfl⟩
 case round=>
  obtain⟨i,s,rfl,rfl,hi,HS,rfl⟩:=hrel;by_cases E:i<m
  ·obtain⟨A,n,c,ls,hc,hn,hT,z,G⟩:=ac.out i E;rw[<-show s=(T i).length from HS.out]at G;have g1:=ic ((i:Int)<m);have aj:=ic (i<m);have y0:(0:Int)<=(i:Int):=mz;have y1:(i:Int)<(m:Int):=mz;have s1:IntKind.i64.wrap ((s:Int)+(n:Int))=((s+n:Nat):Int):=nW;have s2:IntKind.i64.wrap ((i:Int)+1)=((i+1:Nat):Int):=nW;have g2:=ig (((s+n:Nat):Int)<0);have M:Hid (s+n=(T (i+1)).length):=oT;generalize s+n=s' at *;clear z hT hn HS E;go_wp2_with fail;go_roundw
   case measure=>exact jo
   case rel=>exact jc
  ·obtain rfl:i=m:=by omega
   have g1:=ig ((i:Int)<i);have aj:=ig (i<i);have ae:s<=1000000:=kj;obtain⟨w0,rfl⟩:=ii wr;have DG:=hid (lY w0 s ae);clear HS;go_wp2_with fail;refine DG.out.mono ?_;rintro e w2 ⟨v2,rfl,Z,N⟩;have af:Hid (w2.ownsRow w0 5 1 v2 0 (cZ .u8 [])):=Z;have ai:=hid N;have a1:Hid (∀j vv,w0.cell? ⟨g,j,none⟩=some vv->w2.cell? ⟨g,j,none⟩=some vv):=fun j vv h=>(N.cell (p:=⟨g,j,none⟩) aa).trans h;clear DG Z N;go_wp2_with fail;go_loopw [6,27] (fun u v wx=>∃j s:Nat,v= .int .i64 j/\j<=i/\s<=1000000/\Hid (s=(T j).length)/\Hid (wx.ownsRow w0 5 1 u s (cZ .u8 (T j)))/\Hid (Below w0 w0 wx)) (fun _ v _=>i-(intOf v).toNat)
   case atStart=>exact⟨0,0,rfl,mz,mz,pg,by rw[show T 0= [] from Q.out];exact af.out,ai.out⟩
   case round=>
    obtain⟨j,s2,rfl,hj,az,HS,HO,HB⟩:=hrel;clear af ai;by_cases E:j<i
    ·obtain⟨A,n,c,ls,hc,hn,hT,z,G⟩:=ac.out j E;rw[<-show s2=(T j).length from HS.out]at G;have q1:=ic ((j:Int)<i);have al:=ic (j<i);have y0:(0:Int)<=(j:Int):=mz;have y1:(j:Int)<(i:Int):=mz;have u2:IntKind.i64.wrap ((j:Int)+1)=((j+1:Nat):Int):=nW;have ay:=(HB.out.cell (p:=⟨g,j,none⟩) aa).trans hc;have Y:=hid (z _ HB.out);have M:Hid (s2+n=(T (j+1)).length):=oS;have HT:=hid hT;have hz:=HB.out.size;have aq:Hid (∀u∈cZ .u8 ls,u.oneCell'=true):=fun u hu=>by unfold cZ at hu;obtain⟨x,_,rfl⟩:=Cc.1 hu;rfl
     clear z hT hn HS E hc;go_wp2_with(at_builtin;refine iZ rfl (.tmp 31) (.tmp 32) 28 rfl w0 5 j0 _ 1 1 underlying28 av aw am an rfl ip _ _ _ nc HO.out _ _ _ _ nc Y.out aq.out qg mz hz ?_;intro v4 w4 U ak ax);have au:Hid (w4.ownsRow w0 5 1 v4 (s2+n) (cZ .u8 (T (j+1)))):=oA;have ar:Hid (Below w0 w0 w4):=HB.out.grown ak hz (fun y hy=>(Am HO.out y hy).1);exact⟨⟨j+1,s2+n,rfl,mz,G,M.out,au.out,ar.out⟩,pY⟩
    ·obtain rfl:j=i:=by omega
     have q1:=ig ((j:Int)<j);have al:=ig (j<j);go_wp2_with fail;go_ret;refine⟨_,rfl,?_,HB.out⟩;have h:=HO.out;rw[show s2=(T j).length from HS.out,show T j=R from ab.out]at h;exact h
theorem FJ(w:World)(g m:Nat)(ps:List Part)(hm:ps.length=m)(i:m<=8)(hs:BM ps<=1000000)(h:∀p∈ps,p.Ok w)(hg:Blk w g 28 (ps.map Part.v).toArray):
 Calls prog 55 #[.slice (some ⟨g,0,none⟩) m m] w fun e w'=>∃v,e= .returned v/\w'.ownsRow w 5 1 v (ps.flatMap Part.ls).length (cZ .u8 (ps.flatMap Part.ls))/\Below w w w':=by
 have D:=hid (fE w g m ps hm i hs h hg);clear hm hs h hg;go_enter func55,ntmps55;go_wp2_with fail;refine D.out.mono ?_;rintro e w2 ⟨v,rfl,ho,hb⟩;have HO:=hid ho;clear ho;go_wp2_with fail;go_ret;exact⟨_,rfl,HO.out,hb⟩
end NumPut
namespace Ef
open Huff (msb bytesOf)
open NumPut (fZ)
def efW(bound n:Nat):Nat:=Nat.log2 (bound / n)
def unary(n:Nat):List Bool:=List.replicate n false++ [true]
def Es:Nat->List Nat->List Bool
 |_,[]=> []
 |was,x :: t=>unary (x-was)++Es x t
def Di(w:Nat)(ids:List Nat):List Bool:=ids.flatMap fun x=>msb (x % 2 ^ w) w w
def Fs(w:Nat)(ids:List Nat):List Bool:=Di w ids++Es 0 (ids.map (·/ 2 ^ w))
def efO(bound:Nat)(ids:List Nat):List Nat:=if ids= []then fZ 0 else fZ ids.length++bytesOf (Fs (efW bound ids.length) ids)
theorem JH(n:Nat):(unary n).length=n+1:=by simp[unary]
theorem dW(w:Nat)(l:List Nat)(x:Nat):Di w (l++ [x])=Di w l++msb (x % 2 ^ w) w w:=by simp[Di]
theorem Vp:∀ (l:List Nat) (h x:Nat),Es h (l++ [x])=Es h l++unary (x-(l.getLast?.getD h))
 | [],h,x=>by simp[Es]
 |y :: t,h,x=>by
  rw[Ec,Es,Vp t y x,Es,AJ];congr 3;cases t with
  |nil=>rfl
  |cons z s=>simp[List.getLast?_cons]
theorem Lr{q:Nat}(h:q≠0):2 ^ Nat.log2 q<=q:=Nat.log2_self_le h
end Ef
namespace NumPut
open Go.RowKit Mem Own Canon
theorem mC(w:World)(n:Nat)(hn:n<=1000000000):
 Calls prog 185 #[(),n] w fun e w'=>∃v,e= .returned v/\w'.ownsRow w 5 1 v 0 []/\Below w w w':=by
 obtain⟨j0,i,h,z,j⟩:=info_parts Eo;by_cases h0:n=0
 ·subst h0;go_enter func185,ntmps185;go_wp2_with fail;go_ret;exact⟨_,rfl,AK _ _ _ _,Ag _ _⟩
 ·have g0:=ig ((n:Int)<0)
  have g1:=ic ((0:Int)<n)
  have y:=ic (0<n)
  have s1:IntKind.i64.wrap (n:Int)=(n:Int):=Aw _ mz;have s2:IntKind.i64.wrap ((n:Int)-0)=(n:Int):=nW
  have hr:=Lib.run_append_nil_zeros (P:=prog) w 28 3 28 5 j0 _ .i64 .i64 underlying28 underlying3 i h n mz mz mz o7;have hG:=grownCap_le_maxLen w n 0 5 qg;have E:=grownCap_ge w n 0 5;generalize grownCap w n 0 5=G at *;go_enter func185,ntmps185;go_wp2_with(at_builtin;refine Lib.wpList_append_run _ rfl (.tmp 20) (.tmp 21) 28 3 rfl _ _ nc nc _ _ hr ?_);go_ret;refine⟨_,rfl,⟨pI, .inr ⟨w.heap.size,G,_,rfl,Aq _,heap_alloc_new w _,mz,hG,?_,pI⟩⟩,qh⟩;simp[Builtin.zeroCells];omega
theorem cR(w:World)(g m mc:Nat)(ps:List Part)(hm:ps.length=m)(a0:m<=2000000)(hs:BM ps<=1000000000)(ag:∀p∈ps,p.Ok w)(aa:g<w.heap.size)(hg:∀i (h:i<ps.length),w.cell? ⟨g,i,none⟩=some ps[i].v):
 Calls prog 109 #[.slice (some ⟨g,0,none⟩) m mc] w fun e w'=>∃v,e= .returned v/\w'.ownsRow w 5 1 v (ps.flatMap Part.ls).length (cZ .u8 (ps.flatMap Part.ls))/\Below w w w':=by
 obtain⟨j0,av,aw,am,an⟩:=info_parts Eo
 have HP:Hid (∀i,i<m->∃A n c ls,w.cell? ⟨g,i,none⟩=some (.slice A n c)/\List.length ls=n/\(ps.take (i+1)).flatMap Part.ls=(ps.take i).flatMap Part.ls++ls/\(∀wx,Below w w wx->Src wx A n c 1 (cZ .u8 ls))/\((ps.take i).flatMap Part.ls).length+n<=1000000000):=fun i hi=>by
  have J:i<ps.length:=mz
  have hp:=ag _ (Fo J);refine⟨ps[i].A,ps[i].ls.length,ps[i].c,ps[i].ls,?_,rfl,?_,fun wx hb=>KK (hp.step hb).row rfl hp.nil,?_⟩
  ·rw[hg i J];rfl
  ·rw[List.take_succ_eq_append_getElem J,Ix];simp
  ·have e:ps.flatMap Part.ls=(ps.take i).flatMap Part.ls++ps[i].ls++(ps.drop (i+1)).flatMap Part.ls:=(by conv=>lhs;rw[<-EM i ps,Ix,Df J,Ct,<-AJ]);unfold BM at hs;rw[e]at hs;simp at hs;simp;omega
 have HE:Hid ((ps.take m).flatMap Part.ls=ps.flatMap Part.ls):=by rw[BV mz];exact rfl
 have H0:Hid ((ps.take 0).flatMap Part.ls= []):=by rw[List.take_zero];exact rfl
 have ah:Hid ((ps.flatMap Part.ls).length<=1000000000):=hs;obtain⟨R,hR⟩:=ii (ps.flatMap Part.ls);rw[<-hR]at HE ah ⊢;obtain⟨T,hT⟩:∃T:Nat->List Nat,T=fun i=>(ps.take i).flatMap Part.ls:=⟨_,rfl⟩;have ac:Hid (∀i,i<m->∃A n c ls,w.cell? ⟨g,i,none⟩=some (.slice A n c)/\List.length ls=n/\T (i+1)=T i++ls/\(∀wx,Below w w wx->Src wx A n c 1 (cZ .u8 ls))/\(T i).length+n<=1000000000):=by rw[hT];exact HP
 have ab:Hid (T m=R):=by rw[hT];exact HE
 have Q:Hid (T 0= []):=by rw[hT];exact H0
 clear HP HE H0 hR hT ag hg hs hm;have a3:IntKind.i64.wrap (m:Int)=(m:Int):=Aw _ mz;go_enter func109,ntmps109;go_wp2_with fail;go_loopw [3,11] (fun u v wr=>∃i s:Nat,u= .int .i64 s/\v= .int .i64 i/\i<=m/\Hid (s=(T i).length)/\wr=w) (fun _ v _=>m-(intOf v).toNat)
 case atStart=>exact⟨0,0,rfl,rfl,mz,pg,rfl⟩
 case round=>
  obtain⟨i,s,rfl,rfl,hi,HS,rfl⟩:=hrel;by_cases E:i<m
  ·obtain⟨A,n,c,ls,hc,hn,hT,z,G⟩:=ac.out i E;rw[<-show s=(T i).length from HS.out]at G;have g1:=ic ((i:Int)<m);have aj:=ic (i<m);have y0:(0:Int)<=(i:Int):=mz;have y1:(i:Int)<(m:Int):=mz;have s1:IntKind.i64.wrap ((s:Int)+(n:Int))=((s+n:Nat):Int):=nW;have s2:IntKind.i64.wrap ((i:Int)+1)=((i+1:Nat):Int):=nW;have g2:=ig (((s+n:Nat):Int)<0);have M:Hid (s+n=(T (i+1)).length):=oT;generalize s+n=s' at *;clear z hT hn HS E;go_wp2_with fail;go_roundw
   case measure=>exact jo
   case rel=>exact jc
  ·obtain rfl:i=m:=by omega
   have g1:=ig ((i:Int)<i);have aj:=ig (i<i);have ae:s<=1000000000:=kj;obtain⟨w0,rfl⟩:=ii wr;have DG:=hid (mC w0 s ae);clear HS;go_wp2_with fail;refine DG.out.mono ?_;rintro e w2 ⟨v2,rfl,Z,N⟩;have af:Hid (w2.ownsRow w0 5 1 v2 0 (cZ .u8 [])):=Z;have ai:=hid N;have a1:Hid (∀j vv,w0.cell? ⟨g,j,none⟩=some vv->w2.cell? ⟨g,j,none⟩=some vv):=fun j vv h=>(N.cell (p:=⟨g,j,none⟩) aa).trans h;clear DG Z N;go_wp2_with fail;go_loopw [6,27] (fun u v wx=>∃j s:Nat,v= .int .i64 j/\j<=i/\s<=1000000000/\Hid (s=(T j).length)/\Hid (wx.ownsRow w0 5 1 u s (cZ .u8 (T j)))/\Hid (Below w0 w0 wx)) (fun _ v _=>i-(intOf v).toNat)
   case atStart=>exact⟨0,0,rfl,mz,mz,pg,by rw[show T 0= [] from Q.out];exact af.out,ai.out⟩
   case round=>
    obtain⟨j,s2,rfl,hj,az,HS,HO,HB⟩:=hrel;clear af ai;by_cases E:j<i
    ·obtain⟨A,n,c,ls,hc,hn,hT,z,G⟩:=ac.out j E;rw[<-show s2=(T j).length from HS.out]at G;have q1:=ic ((j:Int)<i);have al:=ic (j<i);have y0:(0:Int)<=(j:Int):=mz;have y1:(j:Int)<(i:Int):=mz;have u2:IntKind.i64.wrap ((j:Int)+1)=((j+1:Nat):Int):=nW;have ay:=(HB.out.cell (p:=⟨g,j,none⟩) aa).trans hc;have Y:=hid (z _ HB.out);have M:Hid (s2+n=(T (j+1)).length):=oS;have HT:=hid hT;have hz:=HB.out.size;have aq:Hid (∀u∈cZ .u8 ls,u.oneCell'=true):=fun u hu=>by unfold cZ at hu;obtain⟨x,_,rfl⟩:=Cc.1 hu;rfl
     clear z hT hn HS E hc;go_wp2_with(at_builtin;refine iZ rfl (.tmp 31) (.tmp 32) 28 rfl w0 5 j0 _ 1 1 underlying28 av aw am an rfl ip _ _ _ nc HO.out _ _ _ _ nc Y.out aq.out qg mz hz ?_;intro v4 w4 U ak ax);have au:Hid (w4.ownsRow w0 5 1 v4 (s2+n) (cZ .u8 (T (j+1)))):=oA;have ar:Hid (Below w0 w0 w4):=HB.out.grown ak hz (fun y hy=>(Am HO.out y hy).1);exact⟨⟨j+1,s2+n,rfl,mz,G,M.out,au.out,ar.out⟩,pY⟩
    ·obtain rfl:j=i:=by omega
     have q1:=ig ((j:Int)<j);have al:=ig (j<j);go_wp2_with fail;go_ret;refine⟨_,rfl,?_,HB.out⟩;have h:=HO.out;rw[show s2=(T j).length from HS.out,show T j=R from ab.out]at h;exact h
theorem Ue(w:World)(g m mc:Nat)(ps:List Part)(hm:ps.length=m)(z:m<=2000000)(hs:BM ps<=1000000000)(y:∀p∈ps,p.Ok w)(j:g<w.heap.size)(hg:∀i (h:i<ps.length),w.cell? ⟨g,i,none⟩=some ps[i].v):
 Calls prog 55 #[.slice (some ⟨g,0,none⟩) m mc] w fun e w'=>∃v,e= .returned v/\w'.ownsRow w 5 1 v (ps.flatMap Part.ls).length (cZ .u8 (ps.flatMap Part.ls))/\Below w w w':=by
 have D:=hid (cR w g m mc ps hm z hs y j hg);clear hm hs y hg j;go_enter func55,ntmps55;go_wp2_with fail;refine D.out.mono ?_;rintro e w2 ⟨v,rfl,ho,hb⟩;have HO:=hid ho;clear ho;go_wp2_with fail;go_ret;exact⟨_,rfl,HO.out,hb⟩
end NumPut
end Go.Proofs.YtfgdoknipbpfhaaGreatDoor

/- Numbers written: num -/
import Derived.Test.YtfgdoknipbpfhaaGreatDoorZTwoUnpacks3
import Derived.Lib.AppendZeros
namespace Go.Proofs.YtfgdoknipbpfhaaGreatDoor
open Go.Proofs.Tryz
open Go.Lib (hid)
set_option maxHeartbeats 2000000
set_option maxRecDepth 100000
variable{x:Nat}
namespace NumPut
open Go.RowKit Mem Own Canon
theorem JJ(k:IntKind)(l:List Nat)(x:Nat):cZ k (l++ [x])=cZ k l++ [.int k (x:Nat)]:=nk
def tZ(x:Nat):List Nat:=if x<128 then [x]else(x % 128+128) :: tZ (x / 128)
termination_by x
decreasing_by omega
theorem Gp(h:x<128):tZ x= [x]:=by rw[tZ,Ab h]
theorem Ih(h:¬x<128):tZ x=(x % 128+128) :: tZ (x / 128):=by rw[tZ,Aa h]
theorem Et(x:Nat):∀y∈tZ x,y<=255:=by
 induction x using Nat.strongRecOn with
 |_ x ih=>
  by_cases h:x<128
  ·rw[Gp h];intro y hy;simp at hy;omega
  ·rw[Ih h];intro y hy;rcases BK.1 hy with rfl|hy
   ·omega
   ·exact ih (x / 128) kR y hy
theorem SW:∀v:Nat,v<256->v |||128=v % 128+128:=iX
theorem num_any(w:World)(x:Nat)(hx:x<=100000):
 Calls prog 99 #[.int .u64 x] w fun e w'=>∃v,e= .returned v/\w'.ownsRow w 5 1 v (tZ x).length (cZ .u8 (tZ x))/\aO w w':=by
 obtain⟨j0,M,U,Y,Q⟩:=info_parts Ct;obtain⟨R,hR⟩:=iS (tZ x);have L:Hid ([]++tZ x=R):=hR.symm;rw[<-hR];clear hR;go_enter func99,ntmps99;go_wp2_with fail;go_loopw [0,3] (fun u v wr=>∃ (X k:Nat) (done:List Nat),u= .int .u64 X/\X+k<=100000/\Hid (done.length=k)/\Hid (done++tZ X=R)/\Hid (wr.ownsRow w 5 1 v k (cZ .u8 done))/\Hid (aO w wr)) (fun u _ _=>(intOf u).toNat)
 case atStart=>exact⟨x,0,[],rfl,kR,rfl,L.out,Aq _ _ _ _,Ag _ _⟩
 case round=>
  obtain⟨X,k,done,rfl,hk,HL,HR,HO,HB⟩:=hrel;clear L;have zb:=HB.out.size;by_cases z:X<128
  ·have g1:=iR ((128:Int)<=X);have Z:=iR (128<=X);have c1:IntKind.u8.wrap (X:Int)=(X:Int):=lJ;have j:Hid (done++ [X]=R):=jH;go_wp2_with(at_builtin;refine gZ rfl (.tmp 14) (.tmp 17) 28 rfl w 5 j0 _ 1 1 underlying28 M U Y Q rfl iX _ _ _ kU (HO.out.alloc _) _ 1 1 [.int .u8 (X:Nat)] kU (Src.of_blk (g:=wr.heap.size) (Blk.made _ _ _) 1 1 1 rfl) kw nI kR ni ?_;intro v4 w4 i G N);have J:Hid (w4.ownsRow w 5 1 v4 R.length (cZ .u8 R)):=lj;have E:Hid (aO w w4):=(bZ HB.out).grown G ni (fun y hy=>(Ae HO.out y hy).1);go_ret;exact⟨_,rfl,J.out,E.out⟩
  ·have g1:=iQ ((128:Int)<=X);have Z:=iQ (128<=X);have c1:IntKind.u8.wrap (X:Int)=((X % 256:Nat):Int):=lJ;have o1:bits .or .u8 ((X % 256:Nat):Int) 128=((X % 128+128:Nat):Int):=mu;have j:Hid ((done++ [X % 128+128])++tZ (X / 128)=R):=jI;obtain⟨b,hb⟩:=iS (X % 128+128);obtain⟨a,ha⟩:=iS (X % 256);rw[<-hb]at o1 j;rw[<-ha]at o1 c1;clear hb ha;go_wp2_with(at_builtin;refine gZ rfl (.tmp 6) (.tmp 10) 28 rfl w 5 j0 _ 1 1 underlying28 M U Y Q rfl iX _ _ _ kU (HO.out.alloc _) _ 1 1 [.int .u8 (b:Nat)] kU (Src.of_blk (g:=wr.heap.size) (Blk.made _ _ _) 1 1 1 rfl) kw nI kR ni ?_;intro v4 w4 i G N);have aa:Hid (w4.ownsRow w 5 1 v4 (k+1) (cZ .u8 (done++ [b]))):=(by rw[JJ];exact i);have E:Hid (aO w w4):=(bZ HB.out).grown G ni (fun y hy=>(Ae HO.out y hy).1);exact⟨⟨X / 128,k+1,done++ [b],AI _ kR,kR,mO,j.out,aa.out,E.out⟩,nw⟩
end NumPut
namespace NumPut
open Go.RowKit Mem Own Canon
theorem VY(w:World)(n:Nat)(hn:n<=1000000):
 Calls prog 185 #[(),n] w fun e w'=>∃v,e= .returned v/\w'.ownsRow w 5 1 v 0 []/\aO w w':=by
 obtain⟨j0,j,i,y,h⟩:=info_parts Ct;by_cases h0:n=0
 ·subst h0;go_enter func185,ntmps185;go_wp2_with fail;go_ret;exact⟨_,rfl,Aq _ _ _ _,Ag _ _⟩
 ·have g0:=iR ((n:Int)<0)
  have g1:=iQ ((0:Int)<n)
  have E:=iQ (0<n)
  have s1:IntKind.i64.wrap (n:Int)=(n:Int):=Am _ kR;have s2:IntKind.i64.wrap ((n:Int)-0)=(n:Int):=lD
  have hr:=Lib.run_append_nil_zeros (P:=prog) w 28 3 28 5 j0 _ .i64 .i64 underlying28 underlying3 j i n kR kR kR (by rw[h];omega);have hG:=grownCap_le_maxLen w n 0 5 nI;have z:=grownCap_ge w n 0 5;generalize grownCap w n 0 5=G at *;go_enter func185,ntmps185;go_wp2_with(at_builtin;refine Lib.wpList_append_run _ rfl (.tmp 20) (.tmp 21) 28 3 rfl _ _ kU kU _ _ hr ?_);go_ret;refine⟨_,rfl,⟨mY, .inr ⟨w.heap.size,G,_,rfl,Ai _,heap_alloc_new w _,kR,hG,?_,mY⟩⟩,nJ⟩;simp[Builtin.zeroCells];omega
structure Part where
 A:Option Addr
 c:Nat
 ls:List Nat
def Part.v(p:Part):Value:= .slice p.A p.ls.length p.c
structure Part.Ok (p:Part) (w:World):Prop where
 row:Row w w p.A p.ls.length 1 (jZ .u8 p.ls)
 nil:p.A=none->p.ls.length=0/\p.c=0
theorem Part.Ok.step{p:Part}{w w':World}(h:p.Ok w)(hb:aO w w'):p.Ok w':=⟨(h.row.below hb).mono hb.size,h.nil⟩
def Dn(ps:List Part):Nat:=(ps.flatMap Part.ls).length
theorem XZ(w:World)(g m:Nat)(ps:List Part)(hm:ps.length=m)(ay:m<=8)(hs:Dn ps<=1000000)(ag:∀p∈ps,p.Ok w)(hg:Blk w g 28 (ps.map Part.v).toArray):
 Calls prog 109 #[.slice (some ⟨g,0,none⟩) m m] w fun e w'=>∃v,e= .returned v/\w'.ownsRow w 5 1 v (ps.flatMap Part.ls).length (cZ .u8 (ps.flatMap Part.ls))/\aO w w':=by
 obtain⟨j0,an,av,al,ar⟩:=info_parts Ct
 have HP:Hid (∀i,i<m->∃A n c ls,w.cell? ⟨g,i,none⟩=some (.slice A n c)/\List.length ls=n/\(ps.take (i+1)).flatMap Part.ls=(ps.take i).flatMap Part.ls++ls/\(∀wx,aO w wx->Src wx A n c 1 (cZ .u8 ls))/\((ps.take i).flatMap Part.ls).length+n<=1000000):=fun i hi=>by
  have J:i<ps.length:=kR
  have hp:=ag _ (Hi J);refine⟨ps[i].A,ps[i].ls.length,ps[i].c,ps[i].ls,?_,rfl,?_,fun wx hb=>Ig (hp.step hb).row rfl hp.nil,?_⟩
  ·rw[hg.cell i];simp[J,Part.v]
  ·rw[List.take_succ_eq_append_getElem J,KF];simp
  ·have e:ps.flatMap Part.ls=(ps.take i).flatMap Part.ls++ps[i].ls++(ps.drop (i+1)).flatMap Part.ls:=(by conv=>lhs;rw[<-I5 i ps,KF,CU J,Iw,<-zY]);unfold Dn at hs;rw[e]at hs;simp at hs;simp;omega
 have HE:Hid ((ps.take m).flatMap Part.ls=ps.flatMap Part.ls):=by rw[BR kR];exact rfl
 have aa:=hg.lt;have H0:Hid ((ps.take 0).flatMap Part.ls= []):=by rw[List.take_zero];exact rfl
 have Y:Hid ((ps.flatMap Part.ls).length<=1000000):=hs;obtain⟨R,hR⟩:=iS (ps.flatMap Part.ls);rw[<-hR]at HE Y ⊢;obtain⟨T,hT⟩:∃T:Nat->List Nat,T=fun i=>(ps.take i).flatMap Part.ls:=⟨_,rfl⟩;have ac:Hid (∀i,i<m->∃A n c ls,w.cell? ⟨g,i,none⟩=some (.slice A n c)/\List.length ls=n/\T (i+1)=T i++ls/\(∀wx,aO w wx->Src wx A n c 1 (cZ .u8 ls))/\(T i).length+n<=1000000):=by rw[hT];exact HP
 have ah:Hid (T m=R):=by rw[hT];exact HE
 have L:Hid (T 0= []):=by rw[hT];exact H0
 clear HP HE H0 hR hT ag hg hs hm;have aP:IntKind.i64.wrap (m:Int)=(m:Int):=Am _ kR;go_enter func109,ntmps109;go_wp2_with fail;go_loopw [3,11] (fun u v wr=>∃i s:Nat,u= .int .i64 s/\v= .int .i64 i/\i<=m/\Hid (s=(T i).length)/\wr=w) (fun _ v _=>m-(intOf v).toNat)
 case atStart=>exact⟨0,0,rfl,rfl,kR,mt,rfl⟩
 case round=>
  obtain⟨i,s,rfl,rfl,hi,HS,rfl⟩:=hrel;by_cases E:i<m
  ·obtain⟨A,n,c,ls,hc,hn,hT,z,G⟩:=ac.out i E;rw[<-show s=(T i).length from HS.out]at G;have g1:=iQ ((i:Int)<m);have aq:=iQ (i<m);have y0:(0:Int)<=(i:Int):=kR;have y1:(i:Int)<(m:Int):=kR;have s1:IntKind.i64.wrap ((s:Int)+(n:Int))=((s+n:Nat):Int):=lD;have s2:IntKind.i64.wrap ((i:Int)+1)=((i+1:Nat):Int):=lD;have g2:=iR (((s+n:Nat):Int)<0);have Q:Hid (s+n=(T (i+1)).length):=mf;generalize s+n=s' at *;clear z hT hn HS E;go_wp2_with fail;go_roundw
   case measure=>exact jw
   case rel=>exact jf
  ·obtain rfl:i=m:=by omega
   have g1:=iR ((i:Int)<i);have aq:=iR (i<i);have ae:s<=1000000:=jL;obtain⟨w0,rfl⟩:=iS wr;have DG:=hid (VY w0 s ae);clear HS;go_wp2_with fail;refine DG.out.mono ?_;rintro e w2 ⟨v2,rfl,U,N⟩;have ab:Hid (w2.ownsRow w0 5 1 v2 0 (cZ .u8 [])):=U;have af:=hid N;have aQ:Hid (∀j vv,w0.cell? ⟨g,j,none⟩=some vv->w2.cell? ⟨g,j,none⟩=some vv):=fun j vv h=>(N.cell (p:=⟨g,j,none⟩) aa).trans h;clear DG U N;go_wp2_with fail;go_loopw [6,27] (fun u v wx=>∃j s:Nat,v= .int .i64 j/\j<=i/\s<=1000000/\Hid (s=(T j).length)/\Hid (wx.ownsRow w0 5 1 u s (cZ .u8 (T j)))/\Hid (aO w0 wx)) (fun _ v _=>i-(intOf v).toNat)
   case atStart=>exact⟨0,0,rfl,kR,kR,mt,by rw[show T 0= [] from L.out];exact ab.out,af.out⟩
   case round=>
    obtain⟨j,s2,rfl,hj,az,HS,HO,HB⟩:=hrel;clear ab af;by_cases E:j<i
    ·obtain⟨A,n,c,ls,hc,hn,hT,z,G⟩:=ac.out j E;rw[<-show s2=(T j).length from HS.out]at G;have q1:=iQ ((j:Int)<i);have ak:=iQ (j<i);have y0:(0:Int)<=(j:Int):=kR;have y1:(j:Int)<(i:Int):=kR;have u2:IntKind.i64.wrap ((j:Int)+1)=((j+1:Nat):Int):=lD;have ax:=(HB.out.cell (p:=⟨g,j,none⟩) aa).trans hc;have Z:=hid (z _ HB.out);have Q:Hid (s2+n=(T (j+1)).length):=md;have HT:=hid hT;have hz:=HB.out.size;have am:Hid (∀u∈cZ .u8 ls,u.oneCell'=true):=fun u hu=>by unfold cZ at hu;obtain⟨x,_,rfl⟩:=ET.1 hu;rfl
     clear z hT hn HS E hc;go_wp2_with(at_builtin;refine gZ rfl (.tmp 31) (.tmp 32) 28 rfl w0 5 j0 _ 1 1 underlying28 an av al ar rfl iX _ _ _ kU HO.out _ _ _ _ kU Z.out am.out nI kR hz ?_;intro v4 w4 M aj aw);have au:Hid (w4.ownsRow w0 5 1 v4 (s2+n) (cZ .u8 (T (j+1)))):=lW;have ai:Hid (aO w0 w4):=HB.out.grown aj hz (fun y hy=>(Ae HO.out y hy).1);exact⟨⟨j+1,s2+n,rfl,kR,G,Q.out,au.out,ai.out⟩,nw⟩
    ·obtain rfl:j=i:=by omega
     have q1:=iR ((j:Int)<j);have ak:=iR (j<j);go_wp2_with fail;go_ret;refine⟨_,rfl,?_,HB.out⟩;have h:=HO.out;rw[show s2=(T j).length from HS.out,show T j=R from ah.out]at h;exact h
theorem Jc(w:World)(g m:Nat)(ps:List Part)(hm:ps.length=m)(i:m<=8)(hs:Dn ps<=1000000)(h:∀p∈ps,p.Ok w)(hg:Blk w g 28 (ps.map Part.v).toArray):
 Calls prog 55 #[.slice (some ⟨g,0,none⟩) m m] w fun e w'=>∃v,e= .returned v/\w'.ownsRow w 5 1 v (ps.flatMap Part.ls).length (cZ .u8 (ps.flatMap Part.ls))/\aO w w':=by
 have D:=hid (XZ w g m ps hm i hs h hg);clear hm hs h hg;go_enter func55,ntmps55;go_wp2_with fail;refine D.out.mono ?_;rintro e w2 ⟨v,rfl,ho,hb⟩;have HO:=hid ho;clear ho;go_wp2_with fail;go_ret;exact⟨_,rfl,HO.out,hb⟩
end NumPut
namespace Ef
open Huff (msb bytesOf)
open NumPut (tZ)
def efW(bound n:Nat):Nat:=Nat.log2 (bound / n)
def unary(n:Nat):List Bool:=List.replicate n false++ [true]
def Ju:Nat->List Nat->List Bool
 |_,[]=> []
 |was,x :: t=>unary (x-was)++Ju x t
def Kw(w:Nat)(ids:List Nat):List Bool:=ids.flatMap fun x=>msb (x % 2 ^ w) w w
def J5(w:Nat)(ids:List Nat):List Bool:=Kw w ids++Ju 0 (ids.map (·/ 2 ^ w))
def efO(bound:Nat)(ids:List Nat):List Nat:=if ids= []then tZ 0 else tZ ids.length++bytesOf (J5 (efW bound ids.length) ids)
theorem O5(n:Nat):(unary n).length=n+1:=by simp[unary]
theorem Mb{q:Nat}(h:q≠0):2 ^ Nat.log2 q<=q:=Nat.log2_self_le h
theorem WH(q:Nat):q<2 ^ (Nat.log2 q+1):=Nat.lt_log2_self
end Ef
namespace NumPut
open Go.RowKit Mem Own Canon
theorem Uk(w:World)(n:Nat)(hn:n<=1000000000):
 Calls prog 185 #[(),n] w fun e w'=>∃v,e= .returned v/\w'.ownsRow w 5 1 v 0 []/\aO w w':=by
 obtain⟨j0,j,i,y,h⟩:=info_parts Ct;by_cases h0:n=0
 ·subst h0;go_enter func185,ntmps185;go_wp2_with fail;go_ret;exact⟨_,rfl,Aq _ _ _ _,Ag _ _⟩
 ·have g0:=iR ((n:Int)<0)
  have g1:=iQ ((0:Int)<n)
  have E:=iQ (0<n)
  have s1:IntKind.i64.wrap (n:Int)=(n:Int):=Am _ kR;have s2:IntKind.i64.wrap ((n:Int)-0)=(n:Int):=lD
  have hr:=Lib.run_append_nil_zeros (P:=prog) w 28 3 28 5 j0 _ .i64 .i64 underlying28 underlying3 j i n kR kR kR (by rw[h];omega);have hG:=grownCap_le_maxLen w n 0 5 nI;have z:=grownCap_ge w n 0 5;generalize grownCap w n 0 5=G at *;go_enter func185,ntmps185;go_wp2_with(at_builtin;refine Lib.wpList_append_run _ rfl (.tmp 20) (.tmp 21) 28 3 rfl _ _ kU kU _ _ hr ?_);go_ret;refine⟨_,rfl,⟨mY, .inr ⟨w.heap.size,G,_,rfl,Ai _,heap_alloc_new w _,kR,hG,?_,mY⟩⟩,nJ⟩;simp[Builtin.zeroCells];omega
theorem XI(w:World)(g m mc:Nat)(ps:List Part)(hm:ps.length=m)(ay:m<=2000000)(hs:Dn ps<=1000000000)(ag:∀p∈ps,p.Ok w)(aa:g<w.heap.size)(hg:∀i (h:i<ps.length),w.cell? ⟨g,i,none⟩=some ps[i].v):
 Calls prog 109 #[.slice (some ⟨g,0,none⟩) m mc] w fun e w'=>∃v,e= .returned v/\w'.ownsRow w 5 1 v (ps.flatMap Part.ls).length (cZ .u8 (ps.flatMap Part.ls))/\aO w w':=by
 obtain⟨j0,an,av,al,ar⟩:=info_parts Ct
 have HP:Hid (∀i,i<m->∃A n c ls,w.cell? ⟨g,i,none⟩=some (.slice A n c)/\List.length ls=n/\(ps.take (i+1)).flatMap Part.ls=(ps.take i).flatMap Part.ls++ls/\(∀wx,aO w wx->Src wx A n c 1 (cZ .u8 ls))/\((ps.take i).flatMap Part.ls).length+n<=1000000000):=fun i hi=>by
  have J:i<ps.length:=kR
  have hp:=ag _ (Hi J);refine⟨ps[i].A,ps[i].ls.length,ps[i].c,ps[i].ls,?_,rfl,?_,fun wx hb=>Ig (hp.step hb).row rfl hp.nil,?_⟩
  ·rw[hg i J];rfl
  ·rw[List.take_succ_eq_append_getElem J,KF];simp
  ·have e:ps.flatMap Part.ls=(ps.take i).flatMap Part.ls++ps[i].ls++(ps.drop (i+1)).flatMap Part.ls:=(by conv=>lhs;rw[<-I5 i ps,KF,CU J,Iw,<-zY]);unfold Dn at hs;rw[e]at hs;simp at hs;simp;omega
 have HE:Hid ((ps.take m).flatMap Part.ls=ps.flatMap Part.ls):=by rw[BR kR];exact rfl
 have H0:Hid ((ps.take 0).flatMap Part.ls= []):=by rw[List.take_zero];exact rfl
 have Y:Hid ((ps.flatMap Part.ls).length<=1000000000):=hs;obtain⟨R,hR⟩:=iS (ps.flatMap Part.ls);rw[<-hR]at HE Y ⊢;obtain⟨T,hT⟩:∃T:Nat->List Nat,T=fun i=>(ps.take i).flatMap Part.ls:=⟨_,rfl⟩;have ac:Hid (∀i,i<m->∃A n c ls,w.cell? ⟨g,i,none⟩=some (.slice A n c)/\List.length ls=n/\T (i+1)=T i++ls/\(∀wx,aO w wx->Src wx A n c 1 (cZ .u8 ls))/\(T i).length+n<=1000000000):=by rw[hT];exact HP
 have ah:Hid (T m=R):=by rw[hT];exact HE
 have L:Hid (T 0= []):=by rw[hT];exact H0
 clear HP HE H0 hR hT ag hg hs hm;have aP:IntKind.i64.wrap (m:Int)=(m:Int):=Am _ kR;go_enter func109,ntmps109;go_wp2_with fail;go_loopw [3,11] (fun u v wr=>∃i s:Nat,u= .int .i64 s/\v= .int .i64 i/\i<=m/\Hid (s=(T i).length)/\wr=w) (fun _ v _=>m-(intOf v).toNat)
 case atStart=>exact⟨0,0,rfl,rfl,kR,mt,rfl⟩
 case round=>
  obtain⟨i,s,rfl,rfl,hi,HS,rfl⟩:=hrel;by_cases E:i<m
  ·obtain⟨A,n,c,ls,hc,hn,hT,z,G⟩:=ac.out i E;rw[<-show s=(T i).length from HS.out]at G;have g1:=iQ ((i:Int)<m);have aq:=iQ (i<m);have y0:(0:Int)<=(i:Int):=kR;have y1:(i:Int)<(m:Int):=kR;have s1:IntKind.i64.wrap ((s:Int)+(n:Int))=((s+n:Nat):Int):=lD;have s2:IntKind.i64.wrap ((i:Int)+1)=((i+1:Nat):Int):=lD;have g2:=iR (((s+n:Nat):Int)<0);have Q:Hid (s+n=(T (i+1)).length):=mf;generalize s+n=s' at *;clear z hT hn HS E;go_wp2_with fail;go_roundw
   case measure=>exact jw
   case rel=>exact jf
  ·obtain rfl:i=m:=by omega
   have g1:=iR ((i:Int)<i);have aq:=iR (i<i);have ae:s<=1000000000:=jL;obtain⟨w0,rfl⟩:=iS wr;have DG:=hid (Uk w0 s ae);clear HS;go_wp2_with fail;refine DG.out.mono ?_;rintro e w2 ⟨v2,rfl,U,N⟩;have ab:Hid (w2.ownsRow w0 5 1 v2 0 (cZ .u8 [])):=U;have af:=hid N;have aQ:Hid (∀j vv,w0.cell? ⟨g,j,none⟩=some vv->w2.cell? ⟨g,j,none⟩=some vv):=fun j vv h=>(N.cell (p:=⟨g,j,none⟩) aa).trans h;clear DG U N;go_wp2_with fail;go_loopw [6,27] (fun u v wx=>∃j s:Nat,v= .int .i64 j/\j<=i/\s<=1000000000/\Hid (s=(T j).length)/\Hid (wx.ownsRow w0 5 1 u s (cZ .u8 (T j)))/\Hid (aO w0 wx)) (fun _ v _=>i-(intOf v).toNat)
   case atStart=>exact⟨0,0,rfl,kR,kR,mt,by rw[show T 0= [] from L.out];exact ab.out,af.out⟩
   case round=>
    obtain⟨j,s2,rfl,hj,az,HS,HO,HB⟩:=hrel;clear ab af;by_cases E:j<i
    ·obtain⟨A,n,c,ls,hc,hn,hT,z,G⟩:=ac.out j E;rw[<-show s2=(T j).length from HS.out]at G;have q1:=iQ ((j:Int)<i);have ak:=iQ (j<i);have y0:(0:Int)<=(j:Int):=kR;have y1:(j:Int)<(i:Int):=kR;have u2:IntKind.i64.wrap ((j:Int)+1)=((j+1:Nat):Int):=lD;have ax:=(HB.out.cell (p:=⟨g,j,none⟩) aa).trans hc;have Z:=hid (z _ HB.out);have Q:Hid (s2+n=(T (j+1)).length):=md;have HT:=hid hT;have hz:=HB.out.size;have am:Hid (∀u∈cZ .u8 ls,u.oneCell'=true):=fun u hu=>by unfold cZ at hu;obtain⟨x,_,rfl⟩:=ET.1 hu;rfl
     clear z hT hn HS E hc;go_wp2_with(at_builtin;refine gZ rfl (.tmp 31) (.tmp 32) 28 rfl w0 5 j0 _ 1 1 underlying28 an av al ar rfl iX _ _ _ kU HO.out _ _ _ _ kU Z.out am.out nI kR hz ?_;intro v4 w4 M aj aw);have au:Hid (w4.ownsRow w0 5 1 v4 (s2+n) (cZ .u8 (T (j+1)))):=lW;have ai:Hid (aO w0 w4):=HB.out.grown aj hz (fun y hy=>(Ae HO.out y hy).1);exact⟨⟨j+1,s2+n,rfl,kR,G,Q.out,au.out,ai.out⟩,nw⟩
    ·obtain rfl:j=i:=by omega
     have q1:=iR ((j:Int)<j);have ak:=iR (j<j);go_wp2_with fail;go_ret;refine⟨_,rfl,?_,HB.out⟩;have h:=HO.out;rw[show s2=(T j).length from HS.out,show T j=R from ah.out]at h;exact h
theorem QG(w:World)(g m mc:Nat)(ps:List Part)(hm:ps.length=m)(z:m<=2000000)(hs:Dn ps<=1000000000)(y:∀p∈ps,p.Ok w)(j:g<w.heap.size)(hg:∀i (h:i<ps.length),w.cell? ⟨g,i,none⟩=some ps[i].v):
 Calls prog 55 #[.slice (some ⟨g,0,none⟩) m mc] w fun e w'=>∃v,e= .returned v/\w'.ownsRow w 5 1 v (ps.flatMap Part.ls).length (cZ .u8 (ps.flatMap Part.ls))/\aO w w':=by
 have D:=hid (XI w g m mc ps hm z hs y j hg);clear hm hs y hg j;go_enter func55,ntmps55;go_wp2_with fail;refine D.out.mono ?_;rintro e w2 ⟨v,rfl,ho,hb⟩;have HO:=hid ho;clear ho;go_wp2_with fail;go_ret;exact⟨_,rfl,HO.out,hb⟩
end NumPut
end Go.Proofs.YtfgdoknipbpfhaaGreatDoor

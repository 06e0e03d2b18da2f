/- The reference's read -/
import Derived.Test.YtfgdoknipbpfhaaGreatDoorZTwoUnpacks40
import Derived.Test.YtfgdoknipbpfhaaGreatDoorZTwoUnpacks21
namespace Go.Proofs.YtfgdoknipbpfhaaGreatDoor
open Go.Proofs.Tryz
open Go.Lib (hid)
set_option maxHeartbeats 2000000
set_option maxRecDepth 100000
variable{w w1 w2:World}{g:Nat}
namespace Block
open Go.RowKit Mem Own Canon
open Nums Crc
theorem Gg{fn:Func}{t u v x y:Tmp}(h:fn.results=#[.tmp t, .tmp u, .tmp v, .tmp x, .tmp y])(i:Array Value)(P:Program)(w:World):
 (results fn i).run P w= .ok (.tuple #[i.getD t undef,i.getD u undef,i.getD v undef,i.getD x undef,i.getD y undef]) w:=by
 simp[results,h]
theorem Below.drewN'{B:Nat}{a:World}(h:Below B a w)(n:Nat):Below B a (w.drewN n):=below_drewN h n
theorem FE(h:aO w w1)(hg:w.heap.size<=g)(k:Kept (AW g w1) w1 w2):aO w w2:=
 h.trans (k.below fun x hx=>⟨Em hx h.size,kR⟩)
theorem N6(h:aO w w1)(hg:w.heap.size<=g)(k:Kept (fun x=>x≠g) w1 w2):aO w w2:=
 h.trans (k.below fun x hx=>by show x≠g;omega)
theorem Ut{ls:List Nat}{m:Nat}(hn:ls.length=m+4):decide (ls.take m++Cb (BE (ls.take m))=ls)=decide (ls.drop m=Cb (BE (ls.take m))):=by
 have e:ls=ls.take m++ls.drop m:=(I5 m ls).symm;by_cases h:ls.drop m=Cb (BE (ls.take m))
 ·rw[Aw h];refine Aw ?_;rw[<-h];exact e.symm
 ·rw[Az h];refine Az fun h2=>h ?_;have h3:=AI (List.drop m) h2;rw[List.drop_append_of_le_length ln,Cw ln,GF]at h3;exact h3.symm
theorem Ks(w:World)(A:Option Addr)(n c:Nat)(ls:List Nat)(hn:ls.length=n)(au:n<=100000)(hc:n<=c)(h8:∀x∈ls,x<=255)(ha:Row w w A n 1 (jZ .u8 ls)):
 Calls prog 146 #[.slice A n c] w (EL ls w):=by
 unfold EL;by_cases h4:n<4
 ·have hE:Bx ls=1:=by unfold Bx;rw[Ab kR]
  have hO:vZ ls= []:=by unfold vZ;rw[hE];rfl
  rw[hE,hO];have g1:=iQ ((n:Int)<4)
  have am:=iQ (n<4)
  clear ha h8 hn hE hO;go_enter func146,ntmps146;go_wp2_with fail;go_ret2;exact⟨_,rfl,Aq _ _ _ _,Ag _ _⟩
 ·obtain⟨m,rfl⟩:∃m,n=m+4:=⟨n-4,kR⟩;obtain⟨ab,ao,rfl,af,ah⟩:=ha kR;obtain⟨j0,al,aq,ar,an⟩:=info_parts Ct;have U:ls.length-4=m:=by omega
  have s1:IntKind.i64.wrap ((((m+4:Nat)):Int)-4)=(m:Int):=lD
  have g1:=iR ((((m+4:Nat)):Int)<4)
  have am:=iR (m+4<4)
  have hb:=Dd ha (show m<=m+4 by omega);have z:(ls.take m).length=m:=ln
  have N:∀x∈ls.take m,x<=255:=fun x hx=>h8 x (BZ hx);have k2:=fun wx=>CX (P:=prog) (t:=28) (s:=1) underlying28 (fun _=>by kernel_rfl) (some ⟨ab,ao,none⟩) (m+4) c .i64 (m:Int) m rfl kR (fun a ha=>by injection ha with ha;subst ha;exact Fp ab ao 0) wx;have D1:=hid (Kz w (some ⟨ab,ao,none⟩) m c (ls.take m) z kR (fun h=>by cases h) N hb)
  have Z:∀x∈ls.take m++Cb (BE (ls.take m)),x<=255:=fun x hx=>by
   rcases BN.1 hx with hx|hx
   ·exact N x hx
   ·have:=N3 _ x hx;omega
  have J:(ls.take m++Cb (BE (ls.take m))).length=m+4:=by rw[Aj,z];rfl
  have D2:Hid (∀wx A2 c2,aO w wx->wx.ownsRow w 5 1 (.slice A2 (m+4) c2) (m+4) (cZ .u8 (ls.take m++Cb (BE (ls.take m))))->Calls prog 42 #[.slice A2 (m+4) c2, .slice (some ⟨ab,ao,none⟩) (m+4) c] wx fun e w'=>e= .returned (.bool (decide (ls.drop m=Cb (BE (ls.take m)))))/\wx=w'):=fun wx A2 c2 hbx hox=>by rw[<-Ut hn];have hr:Row wx wx A2 (m+4) 1 (jZ .u8 (ls.take m++Cb (BE (ls.take m)))):=(by have h:=hox;rw[<-J]at h;have:=own_row h;rw[J]at this;exact this);exact Huff.Sn wx A2 _ (m+4) (m+4) c2 c _ ls J hn (fun e=>((Da hox).1 e).1) (fun e=>by cases e) Z h8 hr ((ha.below hbx).mono hbx.size)
  have Y:Hid (∀wx,aO w wx->Src wx (some ⟨ab,ao,none⟩) m c 1 (cZ .u8 (ls.take m))):=fun wx h=>Ig ((hb.below h).mono h.size) z (fun h=>by cases h);unfold Fz at D1;have hE:Bx ls=if ls.drop m=Cb (BE (ls.take m))then 0 else 5:=by unfold Bx;rw[Aa kR,U]
  have hO:vZ ls=if Bx ls=0 then ls.take m else []:=by unfold vZ;rw[U]
  rw[z]at D1;generalize ai:ls.take m++Cb (BE (ls.take m))=T at *;have ak:=hid z;clear ha ah af hb h8 N h4 U hn Z J ai z;by_cases E:ls.drop m=Cb (BE (ls.take m))
  ·rw[Ab E]at hE;rw[hE,Ab rfl]at hO;rw[hE,hO,ak.out];rw[Aw E]at D2;clear E hE hO;generalize ls.take m=M at *;go_enter func146,ntmps146;go_wp2_with fail;refine D1.out.mono ?_;rintro e w1 ⟨v1,rfl,j,i⟩;obtain⟨A1,c1,rfl⟩:=aZ j;have E2:=hid (D2.out w1 A1 c1 i j);have L:=hid i;clear D1 D2 j i;go_wp2_with fail;refine E2.out.mono ?_;rintro e w2 ⟨rfl,rfl⟩;have Q:Hid (aO w (w1.alloc (.cells #[] 5))):=bZ L.out;have HO:=hid (Hb (w:=w1) (base:=w.heap.size) L.out.size);have HS:=hid (Y.out _ Q.out);have aa:=Q.out.size;clear E2 Y;go_wp2_with(at_builtin;refine gZ rfl (.tmp 16) (.tmp 21) 28 rfl w 5 j0 _ 1 1 underlying28 al aq ar an rfl iX _ _ _ kU HO.out _ _ _ _ kU HS.out (Cn _ _) nI kR aa ?_;intro v4 w4 G ac ae;have ag:Hid (aO w w4):=Q.out.grown ac aa (fun y hy=>(Ae HO.out y hy).1);have aj:Hid (w4.ownsRow w 5 1 v4 m (cZ .u8 M)):=(by have h:=G;rw[BF]at h;exact h);clear G ac ae);go_ret2;exact⟨_,rfl,aj.out,ag.out⟩
  ·rw[Aa E]at hE;rw[hE,Aa kR]at hO;rw[hE,hO];rw[Az E]at D2;clear E hE hO;generalize ls.take m=M at *;go_enter func146,ntmps146;go_wp2_with fail;refine D1.out.mono ?_;rintro e w1 ⟨v1,rfl,j,i⟩;obtain⟨A1,c1,rfl⟩:=aZ j;have E2:=hid (D2.out w1 A1 c1 i j);have L:=hid i;clear D1 D2 j i;go_wp2_with fail;refine E2.out.mono ?_;rintro e w2 ⟨rfl,rfl⟩;go_wp2_with fail;go_ret2;exact⟨_,rfl,Aq _ _ _ _,L.out⟩
def hdR(er:Int)(x:Nat):Nat:=if er≠0 then 0 else x
def ML(bs:List Nat)(w:World)(e:Ending)(w':World):Prop:=
 e= .returned (.tuple #[.int .i64 (hdR (hE8 bs) (Cl bs):Nat), .int .i64 (hdR (hE8 bs) (hN bs):Nat), .int .i64 (hdR (hE8 bs) (hP bs):Nat), .int .i64 (hdR (hE8 bs) (hA3 bs):Nat), .int .i64 (hE8 bs)])/\aO w w'
theorem rhead_any(w:World)(X:Option Addr)(nX dX:Nat)(bs:List Nat)(hn:bs.length=nX)(ac:nX<=100000)(hd:nX<=dX)(hX:X=none->nX=0/\dX=0)(au:0<nX->∀a,X=some a->a.add 0=a)(h8:∀x∈bs,x<=255)(ha:Row w w X nX 1 (jZ .u8 bs)):
 Calls prog 214 #[.slice X nX dX] w (ML bs w):=by
 subst hn;have C0:=hid (rnew_any w X bs.length dX bs rfl ac hX ha);have C1:Hid (∀wx g B d,RCur wx g w bs B d 0 0->Calls prog 150 #[.pointer (some ⟨g,0,none⟩)] wx fun e w'=>e= .returned (.int .u8 (Cl bs:Nat))/\RCur w' g w bs B d (hA1 bs) (hE1 bs)/\Kept (AW g wx) wx w'):=fun wx g B d hc=>N8 wx g _ bs B d 0 0 ac hc;have C2:Hid (1<Cl bs->∀wx g B d,RCur wx g w bs B d (hA1 bs) (hE1 bs)->Calls prog 151 #[.pointer (some ⟨g,0,none⟩), .int .i64 2] wx fun e w'=>e= .returned (.tuple #[])/\RCur w' g w bs B d (hA1 bs) (hE2 bs)/\Kept (fun x=>x≠g) wx w'):=fun h1 wx g B d hc=>by rw[show hE2 bs=Du (hE1 bs) 2 from Ab h1];exact Oc wx g _ bs B d _ _ 2 hc
 have am:Hid (¬1<Cl bs->hE2 bs=hE1 bs):=fun h1=>Aa h1;have C3:Hid (∀wx g B d,RCur wx g w bs B d (hA1 bs) (hE2 bs)->Calls prog 149 #[.pointer (some ⟨g,0,none⟩), .int .i64 32768] wx fun e w'=>e= .returned (.int .i64 (hN bs:Nat))/\RCur w' g w bs B d (hA2 bs) (hE3 bs)/\Kept (AW g wx) wx w'):=fun wx g B d hc=>Gm wx g _ bs B d _ _ 32768 ac h8 kR hc;have C4:Hid (∀wx g B d,RCur wx g w bs B d (hA2 bs) (hE3 bs)->Calls prog 149 #[.pointer (some ⟨g,0,none⟩), .int .i64 32768] wx fun e w'=>e= .returned (.int .i64 (hP bs:Nat))/\RCur w' g w bs B d (hA3 bs) (hE4 bs)/\Kept (AW g wx) wx w'):=fun wx g B d hc=>Gm wx g _ bs B d _ _ 32768 ac h8 kR hc;have C5:Hid (1032*hP bs+64<hN bs->∀wx g B d,RCur wx g w bs B d (hA3 bs) (hE4 bs)->Calls prog 151 #[.pointer (some ⟨g,0,none⟩), .int .i64 6] wx fun e w'=>e= .returned (.tuple #[])/\RCur w' g w bs B d (hA3 bs) (hE5 bs)/\Kept (fun x=>x≠g) wx w'):=fun h1 wx g B d hc=>by rw[show hE5 bs=Du (hE4 bs) 6 from Ab h1];exact Oc wx g _ bs B d _ _ 6 hc
 have ab:Hid (¬1032*hP bs+64<hN bs->hE5 bs=hE4 bs):=fun h1=>Aa h1;have aP:=SL h8;have aR:=Ka h8;have aQ:=J7 h8;have az:=Oi h8;have C6:Hid (∀wx g B d,RCur wx g w bs B d (hA3 bs) (hE5 bs)->Calls prog 153 #[.pointer (some ⟨g,0,none⟩), .int .i64 (hP bs:Nat)] wx fun e w'=>∃v,e= .returned v/\w'.ownsRow wx 5 1 v (BM bs).length (cZ .u8 (BM bs))/\RCur w' g w bs B d (hA4 bs) (hE6 bs)/\Kept (AW g wx) wx w'):=fun wx g B d hc=>Ib wx g _ bs B d _ _ (hP bs) ac kR hc;have C7:Hid (∀wx g B d,RCur wx g w bs B d (hA4 bs) (hE6 bs)->Calls prog 153 #[.pointer (some ⟨g,0,none⟩), .int .i64 4] wx fun e w'=>∃v,e= .returned v/\w'.ownsRow wx 5 1 v (AZ bs (hA4 bs) (hE6 bs) 4).length (cZ .u8 (AZ bs (hA4 bs) (hE6 bs) 4))/\RCur w' g w bs B d (hA5 bs) (hE7 bs)/\Kept (AW g wx) wx w'):=fun wx g B d hc=>Ib wx g _ bs B d _ _ 4 ac kR hc
 have ax:hE7 bs=0->0<bs.length:=fun h=>by
  unfold hE7 at h
  have h6:hE6 bs=0/\4<=bs.length-hA4 bs:=by
   unfold Bh at h;split at h
   ·contradiction
   ·rename_i h0;split at h
    ·cases h
    ·exact⟨by simpa using h0,kR⟩
  omega
 have KS:Hid (hE7 bs=0->∀wx,(Instr.slice 28 (.slice X bs.length dX) none (some (.int .i64 (hA5 bs:Nat))) none).run prog wx= .ok (.slice X (hA5 bs) dX) wx):=fun h wx=>CX (P:=prog) (t:=28) (s:=1) underlying28 (fun _=>by kernel_rfl) X bs.length dX .i64 ((hA5 bs:Nat):Int) (hA5 bs) rfl kR (au (ax h)) wx;have C8:Hid (hE7 bs=0->∀wx,aO w wx->Calls prog 146 #[.slice X (hA5 bs) dX] wx (EL (bs.take (hA5 bs)) wx)):=fun h wx hb=>Ks wx X (hA5 bs) dX (bs.take (hA5 bs)) ln kR kR (fun x hx=>h8 x (BZ hx)) (Dd ((ha.below hb).mono hb.size) az);have E8:Hid ((hE7 bs=0->hE8 bs=Bx (bs.take (hA5 bs)))/\(hE7 bs≠0->hE8 bs=hE7 bs)):=⟨fun h=>Aa (by rw[h];simp),fun h=>Ab h⟩;unfold ML;unfold EL at C8;generalize Cl bs=wy at *;generalize hN bs=n at *;generalize hP bs=p at *;generalize hA1 bs=a1 at *;generalize hA2 bs=a2 at *;generalize hA3 bs=a3 at *;generalize hA4 bs=a4 at *;generalize hE1 bs=e1 at *;generalize hE2 bs=e2 at *;generalize hE3 bs=e3 at *;generalize hE4 bs=e4 at *;generalize hE5 bs=e5 at *;generalize hE6 bs=e6 at *;generalize hE7 bs=e7 at *;generalize AZ bs a4 e6 4=tO at *;generalize BM bs=bO at *;generalize Bx (bs.take (hA5 bs))=ce at *;generalize vZ (bs.take (hA5 bs))=cO at *;generalize hE8 bs=e8 at *;generalize hA5 bs=a5 at *;have s1:IntKind.i64.wrap (wy:Int)=(wy:Int):=lB
 have s2:IntKind.i64.wrap (1032*(p:Int))=1032*(p:Int):=lB
 have s3:IntKind.i64.wrap (1032*(p:Int)+64)=1032*(p:Int)+64:=lB
 clear h8 ha ax hX au;go_enter func214,ntmps214;go_wp2_with fail;refine C0.out.mono ?_;rintro e w1 ⟨g,B,d,rfl,al,av⟩;have E:w.heap.size<=g:=al.lo;have F1:=hid al;have B1:=hid av
 replace C1:=hid (fun wx=>C1.out wx g B d)
 replace C2:=hid (fun h wx=>C2.out h wx g B d)
 replace C3:=hid (fun wx=>C3.out wx g B d)
 replace C4:=hid (fun wx=>C4.out wx g B d)
 replace C5:=hid (fun h wx=>C5.out h wx g B d)
 replace C6:=hid (fun wx=>C6.out wx g B d)
 replace C7:=hid (fun wx=>C7.out wx g B d)
 clear al av C0;go_wp2_with fail;refine(C1.out _ F1.out).mono ?_;rintro e w2 ⟨rfl,aw,ar⟩;have F2:=hid aw;have B2:=hid (FE B1.out E ar);clear aw ar F1 B1 C1;by_cases ak:1<wy
 ·have g1:=iQ ((1:Int)<wy)
  have ay:=iQ (1<wy)
  go_wp2_with fail;refine(C2.out ak _ F2.out).mono ?_;rintro e w3 ⟨rfl,aq,an⟩;have F3:=hid aq;have B3:=hid (N6 B2.out E an);clear aq an F2 B2 C2 am ak g1 ay;go_wp2_with fail;refine(C3.out _ F3.out).mono ?_;rintro e w4 ⟨rfl,aj,ai⟩;have F4:=hid aj;have B4:=hid (FE B3.out E ai);clear aj ai F3 B3 C3;go_wp2_with fail;refine(C4.out _ F4.out).mono ?_;rintro e w5 ⟨rfl,af,ae⟩;have F5:=hid af;have B5:=hid (FE B4.out E ae);clear af ae F4 B4 C4;by_cases G:1032*p+64<n
  ·have g4:=iQ (1032*(p:Int)+64<(n:Int));have g5:=iQ (1032*p+64<n);go_wp2_with fail;refine(C5.out G _ F5.out).mono ?_;rintro e w6 ⟨rfl,ah,ag⟩;have F6:=hid ah;have B6:=hid (N6 B5.out E ag);clear ah ag F5 B5 C5 ab G g4 g5;have d1:=F6.out.cells.2.1;go_wp2_with fail;refine(C6.out _ F6.out).mono ?_;rintro e w7 ⟨v7,rfl,L,N,Y⟩;obtain⟨A7,c7,rfl⟩:=aZ L;have F7:=hid N;have B7:=hid (FE B6.out E Y);clear N Y L F6 B6 C6 d1;go_wp2_with fail;refine(C7.out _ F7.out).mono ?_;rintro e w8 ⟨v8,rfl,aa,M,Z⟩;obtain⟨A8,c8,rfl⟩:=aZ aa;have F8:=hid M;have B8:=hid (FE B7.out E Z);clear M Z aa F7 B7 C7;have d1:=F8.out.cells.2.1;have d2:=F8.out.cells.2.2;by_cases i:e7=0
   ·have g7:(e7 != 0)=false:=(by simp[i]);have ks:=KS.out i;have U:=hid (C8.out i w8 B8.out);have z:=hid (E8.out.1 i);clear KS C8 E8 i;go_wp2_with fail;refine U.out.mono ?_;rintro e w9 ⟨v9,rfl,Q,J⟩;obtain⟨A9,c9,rfl⟩:=aZ Q;have B9:=hid (eZ J B8.out);clear Q J U F8 B8;by_cases j:ce=0
    ·have g8:(ce != 0)=false:=(by simp[j]);have y:=hid j;clear j;go_wp2_with fail
     (try simp only[Exit.inBlock,Exit.then])
     refine AV (Gg rfl _ _ _) rfl ?_;exact⟨np,B9.out⟩
    ·have g8:(ce != 0)=true:=nD;have y:=hid j;clear j;go_wp2_with fail
     (try simp only[Exit.inBlock,Exit.then])
     refine AV (Gg rfl _ _ _) rfl ?_;exact⟨np,B9.out⟩
   ·have g7:(e7 != 0)=true:=nC;have z:=hid (E8.out.2 i);have y:=hid i;clear KS C8 E8 i;go_wp2_with fail;go_quiet (fail);go_wp2_with fail
    (try simp only[Exit.inBlock,Exit.then])
    refine AV (Gg rfl _ _ _) rfl ?_;exact⟨np,Below.drewN' B8.out _⟩
  ·have g4:=iR (1032*(p:Int)+64<(n:Int));have g5:=iR (1032*p+64<n);have F6:Hid (RCur w5 g w bs B d a3 e5):=(by rw[ab.out G];exact F5.out);have B6:=B5;obtain⟨w6,rfl⟩:=iS w5;clear F5 B5 C5 ab G;have d1:=F6.out.cells.2.1;go_wp2_with fail;refine(C6.out _ F6.out).mono ?_;rintro e w7 ⟨v7,rfl,L,N,Y⟩;obtain⟨A7,c7,rfl⟩:=aZ L;have F7:=hid N;have B7:=hid (FE B6.out E Y);clear N Y L F6 B6 C6 d1;go_wp2_with fail;refine(C7.out _ F7.out).mono ?_;rintro e w8 ⟨v8,rfl,aa,M,Z⟩;obtain⟨A8,c8,rfl⟩:=aZ aa;have F8:=hid M;have B8:=hid (FE B7.out E Z);clear M Z aa F7 B7 C7;have d1:=F8.out.cells.2.1;have d2:=F8.out.cells.2.2;by_cases i:e7=0
   ·have g7:(e7 != 0)=false:=(by simp[i]);have ks:=KS.out i;have U:=hid (C8.out i w8 B8.out);have z:=hid (E8.out.1 i);clear KS C8 E8 i;go_wp2_with fail;refine U.out.mono ?_;rintro e w9 ⟨v9,rfl,Q,J⟩;obtain⟨A9,c9,rfl⟩:=aZ Q;have B9:=hid (eZ J B8.out);clear Q J U F8 B8;by_cases j:ce=0
    ·have g8:(ce != 0)=false:=(by simp[j]);have y:=hid j;clear j;go_wp2_with fail
     (try simp only[Exit.inBlock,Exit.then])
     refine AV (Gg rfl _ _ _) rfl ?_;exact⟨np,B9.out⟩
    ·have g8:(ce != 0)=true:=nD;have y:=hid j;clear j;go_wp2_with fail
     (try simp only[Exit.inBlock,Exit.then])
     refine AV (Gg rfl _ _ _) rfl ?_;exact⟨np,B9.out⟩
   ·have g7:(e7 != 0)=true:=nC;have z:=hid (E8.out.2 i);have y:=hid i;clear KS C8 E8 i;go_wp2_with fail;go_quiet (fail);go_wp2_with fail
    (try simp only[Exit.inBlock,Exit.then])
    refine AV (Gg rfl _ _ _) rfl ?_;exact⟨np,Below.drewN' B8.out _⟩
 ·have g1:=iR ((1:Int)<wy)
  have ay:=iR (1<wy)
  have F3:Hid (RCur w2 g w bs B d a1 e2):=by rw[am.out ak];exact F2.out
  have B3:=B2;obtain⟨w3,rfl⟩:=iS w2;clear F2 B2 C2 am ak;go_wp2_with fail;refine(C3.out _ F3.out).mono ?_;rintro e w4 ⟨rfl,aj,ai⟩;have F4:=hid aj;have B4:=hid (FE B3.out E ai);clear aj ai F3 B3 C3;go_wp2_with fail;refine(C4.out _ F4.out).mono ?_;rintro e w5 ⟨rfl,af,ae⟩;have F5:=hid af;have B5:=hid (FE B4.out E ae);clear af ae F4 B4 C4;by_cases G:1032*p+64<n
  ·have g4:=iQ (1032*(p:Int)+64<(n:Int));have g5:=iQ (1032*p+64<n);go_wp2_with fail;refine(C5.out G _ F5.out).mono ?_;rintro e w6 ⟨rfl,ah,ag⟩;have F6:=hid ah;have B6:=hid (N6 B5.out E ag);clear ah ag F5 B5 C5 ab G g4 g5;have d1:=F6.out.cells.2.1;go_wp2_with fail;refine(C6.out _ F6.out).mono ?_;rintro e w7 ⟨v7,rfl,L,N,Y⟩;obtain⟨A7,c7,rfl⟩:=aZ L;have F7:=hid N;have B7:=hid (FE B6.out E Y);clear N Y L F6 B6 C6 d1;go_wp2_with fail;refine(C7.out _ F7.out).mono ?_;rintro e w8 ⟨v8,rfl,aa,M,Z⟩;obtain⟨A8,c8,rfl⟩:=aZ aa;have F8:=hid M;have B8:=hid (FE B7.out E Z);clear M Z aa F7 B7 C7;have d1:=F8.out.cells.2.1;have d2:=F8.out.cells.2.2;by_cases i:e7=0
   ·have g7:(e7 != 0)=false:=(by simp[i]);have ks:=KS.out i;have U:=hid (C8.out i w8 B8.out);have z:=hid (E8.out.1 i);clear KS C8 E8 i;go_wp2_with fail;refine U.out.mono ?_;rintro e w9 ⟨v9,rfl,Q,J⟩;obtain⟨A9,c9,rfl⟩:=aZ Q;have B9:=hid (eZ J B8.out);clear Q J U F8 B8;by_cases j:ce=0
    ·have g8:(ce != 0)=false:=(by simp[j]);have y:=hid j;clear j;go_wp2_with fail
     (try simp only[Exit.inBlock,Exit.then])
     refine AV (Gg rfl _ _ _) rfl ?_;exact⟨np,B9.out⟩
    ·have g8:(ce != 0)=true:=nD;have y:=hid j;clear j;go_wp2_with fail
     (try simp only[Exit.inBlock,Exit.then])
     refine AV (Gg rfl _ _ _) rfl ?_;exact⟨np,B9.out⟩
   ·have g7:(e7 != 0)=true:=nC;have z:=hid (E8.out.2 i);have y:=hid i;clear KS C8 E8 i;go_wp2_with fail;go_quiet (fail);go_wp2_with fail
    (try simp only[Exit.inBlock,Exit.then])
    refine AV (Gg rfl _ _ _) rfl ?_;exact⟨np,Below.drewN' B8.out _⟩
  ·have g4:=iR (1032*(p:Int)+64<(n:Int));have g5:=iR (1032*p+64<n);have F6:Hid (RCur w5 g w bs B d a3 e5):=(by rw[ab.out G];exact F5.out);have B6:=B5;obtain⟨w6,rfl⟩:=iS w5;clear F5 B5 C5 ab G;have d1:=F6.out.cells.2.1;go_wp2_with fail;refine(C6.out _ F6.out).mono ?_;rintro e w7 ⟨v7,rfl,L,N,Y⟩;obtain⟨A7,c7,rfl⟩:=aZ L;have F7:=hid N;have B7:=hid (FE B6.out E Y);clear N Y L F6 B6 C6 d1;go_wp2_with fail;refine(C7.out _ F7.out).mono ?_;rintro e w8 ⟨v8,rfl,aa,M,Z⟩;obtain⟨A8,c8,rfl⟩:=aZ aa;have F8:=hid M;have B8:=hid (FE B7.out E Z);clear M Z aa F7 B7 C7;have d1:=F8.out.cells.2.1;have d2:=F8.out.cells.2.2;by_cases i:e7=0
   ·have g7:(e7 != 0)=false:=(by simp[i]);have ks:=KS.out i;have U:=hid (C8.out i w8 B8.out);have z:=hid (E8.out.1 i);clear KS C8 E8 i;go_wp2_with fail;refine U.out.mono ?_;rintro e w9 ⟨v9,rfl,Q,J⟩;obtain⟨A9,c9,rfl⟩:=aZ Q;have B9:=hid (eZ J B8.out);clear Q J U F8 B8;by_cases j:ce=0
    ·have g8:(ce != 0)=false:=(by simp[j]);have y:=hid j;clear j;go_wp2_with fail
     (try simp only[Exit.inBlock,Exit.then])
     refine AV (Gg rfl _ _ _) rfl ?_;exact⟨np,B9.out⟩
    ·have g8:(ce != 0)=true:=nD;have y:=hid j;clear j;go_wp2_with fail
     (try simp only[Exit.inBlock,Exit.then])
     refine AV (Gg rfl _ _ _) rfl ?_;exact⟨np,B9.out⟩
   ·have g7:(e7 != 0)=true:=nC;have z:=hid (E8.out.2 i);have y:=hid i;clear KS C8 E8 i;go_wp2_with fail;go_quiet (fail);go_wp2_with fail
    (try simp only[Exit.inBlock,Exit.then])
    refine AV (Gg rfl _ _ _) rfl ?_;exact⟨np,Below.drewN' B8.out _⟩
end Block
end Go.Proofs.YtfgdoknipbpfhaaGreatDoor

/- The reference's read -/
import Derived.Test.YtbgoibedicbkjaaGreatDoorZBodyLogs39
import Derived.Test.YtbgoibedicbkjaaGreatDoorZBodyLogs21
namespace Go.Proofs.YtbgoibedicbkjaaGreatDoor
open Go.Lib (hid)
set_option maxHeartbeats 2000000
set_option maxRecDepth 100000
namespace Block
open Go.RowKit Mem Own Canon
open Nums Crc
theorem Fz{fn:Func}{t u v x y:Tmp}(h:fn.results=#[.tmp t, .tmp u, .tmp v, .tmp x, .tmp y])(i:Array Value)(P:Program)(w:World):
 (results fn i).run P w= .ok (.tuple #[i.getD t undef,i.getD u undef,i.getD v undef,i.getD x undef,i.getD y undef]) w:=by
 simp[results,h]
theorem Below.drewN'{B:Nat}{a w:World}(h:Below B a w)(n:Nat):Below B a (w.drewN n):=below_drewN h n
theorem zY{w w1 w2:World}{g:Nat}(h:Below w.heap.size w w1)(hg:w.heap.size<=g)(k:Kept (uZ g w1) w1 w2):Below w.heap.size w w2:=
 h.trans (k.below fun x hx=>⟨De hx h.size,by omega⟩)
theorem MR{w w1 w2:World}{g:Nat}(h:Below w.heap.size w w1)(hg:w.heap.size<=g)(k:Kept (fun x=>x≠g) w1 w2):Below w.heap.size w w2:=
 h.trans (k.below fun x hx=>by show x≠g;omega)
theorem VW{ls:List Nat}{m:Nat}(hn:ls.length=m+4):decide (ls.take m++BX (Bx (ls.take m))=ls)=decide (ls.drop m=BX (Bx (ls.take m))):=by
 have e:ls=ls.take m++ls.drop m:=(Ix m ls).symm;by_cases h:ls.drop m=BX (Bx (ls.take m))
 ·rw[Aw h];refine Aw ?_;rw[<-h];exact e.symm
 ·rw[Az h];refine Az fun h2=>h ?_;have h3:=AJ (List.drop m) h2;rw[List.drop_append_of_le_length (by rw[AO];omega),Ce (by rw[AO];omega),Gb]at h3;exact h3.symm
theorem KZ(w:World)(A:Option Addr)(n c:Nat)(ls:List Nat)(hn:ls.length=n)(au:n<=100000)(hc:n<=c)(h8:∀x∈ls,x<=255)(ha:Row w w.heap.size A n 1 (iZ .u8 ls)):
 Calls Tryz.prog 42 #[.slice A n c] w (ER ls w):=by
 unfold ER;by_cases h4:n<4
 ·have hE:BS ls=1:=by unfold BS;rw[Ab (by omega)]
  have hO:AI ls= []:=by unfold AI;rw[hE];rfl
  rw[hE,hO];have g1:decide ((n:Int)<4)=true:=by simp;omega
  have ah:decide (n<4)=true:=by simp;omega
  clear ha h8 hn hE hO;go_enter Tryz.func42,Tryz.ntmps42;go_wp2_with fail;go_ret2;exact⟨_,rfl,Am _ _ _ _,Ag _ _⟩
 ·obtain⟨m,rfl⟩:∃m,n=m+4:=⟨n-4,by omega⟩;obtain⟨ab,ao,rfl,an,ai⟩:=ha (by omega);obtain⟨j0,aq,ak,aj,af⟩:=info_parts Cr;have N:ls.length-4=m:=by omega
  have s1:IntKind.i64.wrap ((((m+4:Nat)):Int)-4)=(m:Int):=by rw[Ak _ (by omega)];omega
  have g1:decide ((((m+4:Nat)):Int)<4)=false:=by simp;omega
  have ah:decide (m+4<4)=false:=by simp
  have hb:=Du ha (show m<=m+4 by omega);have E:(ls.take m).length=m:=by rw[AO];omega
  have U:∀x∈ls.take m,x<=255:=fun x hx=>h8 x (BV hx);have k2:=fun wx=>Dx (P:=Tryz.prog) (t:=22) (s:=1) Tryz.underlying22 (fun _=>by kernel_rfl) (some ⟨ab,ao,none⟩) (m+4) c .i64 (m:Int) m rfl (by omega) (fun a ha=>by injection ha with ha;subst ha;exact EY ab ao 0) wx;have D1:=hid (Lm w (some ⟨ab,ao,none⟩) m c (ls.take m) E (by omega) (fun h=>by cases h) U hb)
  have ac:∀x∈ls.take m++BX (Bx (ls.take m)),x<=255:=fun x hx=>by
   rcases BH.1 hx with hx|hx
   ·exact U x hx
   ·have:=PR _ x hx;omega
  have L:(ls.take m++BX (Bx (ls.take m))).length=m+4:=by rw[Ai,E];rfl
  have D2:Hid (∀wx A2 c2,Below w.heap.size w wx->wx.ownsRow w.heap.size 5 1 (.slice A2 (m+4) c2) (m+4) (cZ .u8 (ls.take m++BX (Bx (ls.take m))))->Calls Tryz.prog 30 #[.slice A2 (m+4) c2, .slice (some ⟨ab,ao,none⟩) (m+4) c] wx fun e w'=>e= .returned (.bool (decide (ls.drop m=BX (Bx (ls.take m)))))/\wx=w'):=fun wx A2 c2 hbx hox=>by rw[<-VW hn];have hr:Row wx wx.heap.size A2 (m+4) 1 (iZ .u8 (ls.take m++BX (Bx (ls.take m)))):=(by have h:=hox;rw[<-L]at h;have:=own_row h;rw[L]at this;exact this);exact Huff.Qd wx A2 _ (m+4) (m+4) c2 c _ ls L hn (fun e=>((CQ hox).1 e).1) (fun e=>by cases e) ac h8 hr ((ha.below hbx).mono hbx.size)
  have Y:Hid (∀wx,Below w.heap.size w wx->Src wx (some ⟨ab,ao,none⟩) m c 1 (cZ .u8 (ls.take m))):=fun wx h=>Hc ((hb.below h).mono h.size) E (fun h=>by cases h);unfold Gp at D1;have hE:BS ls=if ls.drop m=BX (Bx (ls.take m))then 0 else 5:=by unfold BS;rw[Aa (by omega),N]
  have hO:AI ls=if BS ls=0 then ls.take m else []:=by unfold AI;rw[N]
  rw[E]at D1;generalize al:ls.take m++BX (Bx (ls.take m))=T at *;have ag:=hid E;clear ha ai an hb h8 U h4 N hn ac L al E;by_cases z:ls.drop m=BX (Bx (ls.take m))
  ·rw[Ab z]at hE;rw[hE,Ab rfl]at hO;rw[hE,hO,ag.out];rw[Aw z]at D2;clear z hE hO;generalize ls.take m=M at *;go_enter Tryz.func42,Tryz.ntmps42;go_wp2_with fail;refine D1.out.mono ?_;rintro e w1 ⟨v1,rfl,j,i⟩;obtain⟨A1,c1,rfl⟩:=aZ j;have E2:=hid (D2.out w1 A1 c1 i j);have J:=hid i;clear D1 D2 j i;go_wp2_with fail;refine E2.out.mono ?_;rintro e w2 ⟨rfl,rfl⟩;have Q:Hid (Below w.heap.size w (w1.alloc (.cells #[] 5))):=bZ J.out;have HO:=hid (GA (w:=w1) (base:=w.heap.size) J.out.size);have HS:=hid (Y.out _ Q.out);have ae:=Q.out.size;clear E2 Y;go_wp2_with(at_builtin;refine gZ rfl (.tmp 16) (.tmp 21) 22 rfl w.heap.size 5 j0 _ 1 1 Tryz.underlying22 aq ak aj af rfl (by decide) _ _ _ (by rfl) HO.out _ _ _ _ (by rfl) HS.out (Cm _ _) (by unfold maxLen;omega) (by omega) ae ?_;intro v4 w4 G Z aa;have am:Hid (Below w.heap.size w w4):=Q.out.grown Z ae (fun y hy=>(Ae HO.out y hy).1);have ar:Hid (w4.ownsRow w.heap.size 5 1 v4 m (cZ .u8 M)):=(by have h:=G;rw[Bq]at h;exact h);clear G Z aa);go_ret2;exact⟨_,rfl,ar.out,am.out⟩
  ·rw[Aa z]at hE;rw[hE,Aa (by omega)]at hO;rw[hE,hO];rw[Az z]at D2;clear z hE hO;generalize ls.take m=M at *;go_enter Tryz.func42,Tryz.ntmps42;go_wp2_with fail;refine D1.out.mono ?_;rintro e w1 ⟨v1,rfl,j,i⟩;obtain⟨A1,c1,rfl⟩:=aZ j;have E2:=hid (D2.out w1 A1 c1 i j);have J:=hid i;clear D1 D2 j i;go_wp2_with fail;refine E2.out.mono ?_;rintro e w2 ⟨rfl,rfl⟩;go_wp2_with fail;go_ret2;exact⟨_,rfl,Am _ _ _ _,J.out⟩
def hdR(er:Int)(x:Nat):Nat:=if er≠0 then 0 else x
def MN(bs:List Nat)(w:World)(e:Ending)(w':World):Prop:=
 e= .returned (.tuple #[.int .i64 (hdR (hE8 bs) (BR bs):Nat), .int .i64 (hdR (hE8 bs) (hN bs):Nat), .int .i64 (hdR (hE8 bs) (hP bs):Nat), .int .i64 (hdR (hE8 bs) (hA3 bs):Nat), .int .i64 (hE8 bs)])/\Below w.heap.size w w'
theorem S7(w:World)(X:Option Addr)(nX dX:Nat)(bs:List Nat)(hn:bs.length=nX)(ac:nX<=100000)(hd:nX<=dX)(hX:X=none->nX=0/\dX=0)(ax:0<nX->∀a,X=some a->a.add 0=a)(h8:∀x∈bs,x<=255)(ha:Row w w.heap.size X nX 1 (iZ .u8 bs)):
 Calls Tryz.prog 130 #[.slice X nX dX] w (MN bs w):=by
 subst hn;have C0:=hid (rnew_any w X bs.length dX bs rfl ac hX ha);have C1:Hid (∀wx g B d,RCur wx g w.heap.size bs B d 0 0->Calls Tryz.prog 40 #[.pointer (some ⟨g,0,none⟩)] wx fun e w'=>e= .returned (.int .u8 (BR bs:Nat))/\RCur w' g w.heap.size bs B d (hA1 bs) (hE1 bs)/\Kept (uZ g wx) wx w'):=fun wx g B d hc=>Rv wx g _ bs B d 0 0 ac hc;have C2:Hid (1<BR bs->∀wx g B d,RCur wx g w.heap.size bs B d (hA1 bs) (hE1 bs)->Calls Tryz.prog 41 #[.pointer (some ⟨g,0,none⟩), .int .i64 2] wx fun e w'=>e= .returned (.tuple #[])/\RCur w' g w.heap.size bs B d (hA1 bs) (hE2 bs)/\Kept (fun x=>x≠g) wx w'):=fun h1 wx g B d hc=>by rw[show hE2 bs=Dv (hE1 bs) 2 from Ab h1];exact RI wx g _ bs B d _ _ 2 hc
 have al:Hid (¬1<BR bs->hE2 bs=hE1 bs):=fun h1=>Aa h1;have C3:Hid (∀wx g B d,RCur wx g w.heap.size bs B d (hA1 bs) (hE2 bs)->Calls Tryz.prog 39 #[.pointer (some ⟨g,0,none⟩), .int .i64 32768] wx fun e w'=>e= .returned (.int .i64 (hN bs:Nat))/\RCur w' g w.heap.size bs B d (hA2 bs) (hE3 bs)/\Kept (uZ g wx) wx w'):=fun wx g B d hc=>GB wx g _ bs B d _ _ 32768 ac h8 (by omega) hc;have C4:Hid (∀wx g B d,RCur wx g w.heap.size bs B d (hA2 bs) (hE3 bs)->Calls Tryz.prog 39 #[.pointer (some ⟨g,0,none⟩), .int .i64 32768] wx fun e w'=>e= .returned (.int .i64 (hP bs:Nat))/\RCur w' g w.heap.size bs B d (hA3 bs) (hE4 bs)/\Kept (uZ g wx) wx w'):=fun wx g B d hc=>GB wx g _ bs B d _ _ 32768 ac h8 (by omega) hc;have C5:Hid (1032*hP bs+64<hN bs->∀wx g B d,RCur wx g w.heap.size bs B d (hA3 bs) (hE4 bs)->Calls Tryz.prog 41 #[.pointer (some ⟨g,0,none⟩), .int .i64 6] wx fun e w'=>e= .returned (.tuple #[])/\RCur w' g w.heap.size bs B d (hA3 bs) (hE5 bs)/\Kept (fun x=>x≠g) wx w'):=fun h1 wx g B d hc=>by rw[show hE5 bs=Dv (hE4 bs) 6 from Ab h1];exact RI wx g _ bs B d _ _ 6 hc
 have ab:Hid (¬1032*hP bs+64<hN bs->hE5 bs=hE4 bs):=fun h1=>Aa h1;have aB:=Rp h8;have aA:=JY h8;have aC:=JW h8;have aw:=Oi h8;have C6:Hid (∀wx g B d,RCur wx g w.heap.size bs B d (hA3 bs) (hE5 bs)->Calls Tryz.prog 38 #[.pointer (some ⟨g,0,none⟩), .int .i64 (hP bs:Nat)] wx fun e w'=>∃v,e= .returned v/\w'.ownsRow wx.heap.size 5 1 v (Bp bs).length (cZ .u8 (Bp bs))/\RCur w' g w.heap.size bs B d (hA4 bs) (hE6 bs)/\Kept (uZ g wx) wx w'):=fun wx g B d hc=>Jf wx g _ bs B d _ _ (hP bs) ac (by omega) hc;have C7:Hid (∀wx g B d,RCur wx g w.heap.size bs B d (hA4 bs) (hE6 bs)->Calls Tryz.prog 38 #[.pointer (some ⟨g,0,none⟩), .int .i64 4] wx fun e w'=>∃v,e= .returned v/\w'.ownsRow wx.heap.size 5 1 v (AW bs (hA4 bs) (hE6 bs) 4).length (cZ .u8 (AW bs (hA4 bs) (hE6 bs) 4))/\RCur w' g w.heap.size bs B d (hA5 bs) (hE7 bs)/\Kept (uZ g wx) wx w'):=fun wx g B d hc=>Jf wx g _ bs B d _ _ 4 ac (by omega) hc
 have au:hE7 bs=0->0<bs.length:=fun h=>by
  unfold hE7 at h
  have h6:hE6 bs=0/\4<=bs.length-hA4 bs:=by
   unfold Be at h;split at h
   ·contradiction
   ·rename_i h0;split at h
    ·cases h
    ·exact⟨by simpa using h0,by omega⟩
  omega
 have KS:Hid (hE7 bs=0->∀wx,(Instr.slice 22 (.slice X bs.length dX) none (some (.int .i64 (hA5 bs:Nat))) none).run Tryz.prog wx= .ok (.slice X (hA5 bs) dX) wx):=fun h wx=>Dx (P:=Tryz.prog) (t:=22) (s:=1) Tryz.underlying22 (fun _=>by kernel_rfl) X bs.length dX .i64 ((hA5 bs:Nat):Int) (hA5 bs) rfl (by omega) (ax (au h)) wx;have C8:Hid (hE7 bs=0->∀wx,Below w.heap.size w wx->Calls Tryz.prog 42 #[.slice X (hA5 bs) dX] wx (ER (bs.take (hA5 bs)) wx)):=fun h wx hb=>KZ wx X (hA5 bs) dX (bs.take (hA5 bs)) (by rw[AO];omega) (by omega) (by omega) (fun x hx=>h8 x (BV hx)) (Du ((ha.below hb).mono hb.size) aw);have E8:Hid ((hE7 bs=0->hE8 bs=BS (bs.take (hA5 bs)))/\(hE7 bs≠0->hE8 bs=hE7 bs)):=⟨fun h=>Aa (by rw[h];simp),fun h=>Ab h⟩;unfold MN;unfold ER at C8;generalize BR bs=wy at *;generalize hN bs=n at *;generalize hP bs=p at *;generalize hA1 bs=a1 at *;generalize hA2 bs=a2 at *;generalize hA3 bs=a3 at *;generalize hA4 bs=a4 at *;generalize hE1 bs=e1 at *;generalize hE2 bs=e2 at *;generalize hE3 bs=e3 at *;generalize hE4 bs=e4 at *;generalize hE5 bs=e5 at *;generalize hE6 bs=e6 at *;generalize hE7 bs=e7 at *;generalize AW bs a4 e6 4=tO at *;generalize Bp bs=bO at *;generalize BS (bs.take (hA5 bs))=ce at *;generalize AI (bs.take (hA5 bs))=cO at *;generalize hE8 bs=e8 at *;generalize hA5 bs=a5 at *;have s1:IntKind.i64.wrap (wy:Int)=(wy:Int):=by rw[Ak _ (by omega)]
 have s2:IntKind.i64.wrap (1032*(p:Int))=1032*(p:Int):=by rw[Ak _ (by omega)]
 have s3:IntKind.i64.wrap (1032*(p:Int)+64)=1032*(p:Int)+64:=by rw[Ak _ (by omega)]
 clear h8 ha au hX ax;go_enter Tryz.func130,Tryz.ntmps130;go_wp2_with fail;refine C0.out.mono ?_;rintro e w1 ⟨g,B,d,rfl,am,az⟩;have E:w.heap.size<=g:=am.lo;have F1:=hid am;have B1:=hid az
 replace C1:=hid (fun wx=>C1.out wx g B d)
 replace C2:=hid (fun h wx=>C2.out h wx g B d)
 replace C3:=hid (fun wx=>C3.out wx g B d)
 replace C4:=hid (fun wx=>C4.out wx g B d)
 replace C5:=hid (fun h wx=>C5.out h wx g B d)
 replace C6:=hid (fun wx=>C6.out wx g B d)
 replace C7:=hid (fun wx=>C7.out wx g B d)
 clear am az C0;go_wp2_with fail;refine(C1.out _ F1.out).mono ?_;rintro e w2 ⟨rfl,an,aq⟩;have F2:=hid an;have B2:=hid (zY B1.out E aq);clear an aq F1 B1 C1;by_cases ak:1<wy
 ·have g1:decide ((1:Int)<(wy:Int))=true:=by simp;omega
  have ay:decide (1<wy)=true:=by simp;omega
  go_wp2_with fail;refine(C2.out ak _ F2.out).mono ?_;rintro e w3 ⟨rfl,av,ar⟩;have F3:=hid av;have B3:=hid (MR B2.out E ar);clear av ar F2 B2 C2 al ak g1 ay;go_wp2_with fail;refine(C3.out _ F3.out).mono ?_;rintro e w4 ⟨rfl,ag,ae⟩;have F4:=hid ag;have B4:=hid (zY B3.out E ae);clear ag ae F3 B3 C3;go_wp2_with fail;refine(C4.out _ F4.out).mono ?_;rintro e w5 ⟨rfl,aj,ah⟩;have F5:=hid aj;have B5:=hid (zY B4.out E ah);clear aj ah F4 B4 C4;by_cases G:1032*p+64<n
  ·have g4:decide (1032*(p:Int)+64<(n:Int))=true:=(by simp;omega);have g5:decide (1032*p+64<n)=true:=(by simp;omega);go_wp2_with fail;refine(C5.out G _ F5.out).mono ?_;rintro e w6 ⟨rfl,ai,af⟩;have F6:=hid ai;have B6:=hid (MR B5.out E af);clear ai af F5 B5 C5 ab G g4 g5;have d1:=F6.out.cells.2.1;go_wp2_with fail;refine(C6.out _ F6.out).mono ?_;rintro e w7 ⟨v7,rfl,Q,Y,J⟩;obtain⟨A7,c7,rfl⟩:=aZ Q;have F7:=hid Y;have B7:=hid (zY B6.out E J);clear Y J Q F6 B6 C6 d1;go_wp2_with fail;refine(C7.out _ F7.out).mono ?_;rintro e w8 ⟨v8,rfl,aa,U,N⟩;obtain⟨A8,c8,rfl⟩:=aZ aa;have F8:=hid U;have B8:=hid (zY B7.out E N);clear U N aa F7 B7 C7;have d1:=F8.out.cells.2.1;have d2:=F8.out.cells.2.2;by_cases i:e7=0
   ·have g7:(e7 != 0)=false:=(by simp[i]);have ks:=KS.out i;have L:=hid (C8.out i w8 B8.out);have z:=hid (E8.out.1 i);clear KS C8 E8 i;go_wp2_with fail;refine L.out.mono ?_;rintro e w9 ⟨v9,rfl,Z,M⟩;obtain⟨A9,c9,rfl⟩:=aZ Z;have B9:=hid (eZ M B8.out);clear Z M L F8 B8;by_cases j:ce=0
    ·have g8:(ce != 0)=false:=(by simp[j]);have y:=hid j;clear j;go_wp2_with fail
     (try simp only[Exit.inBlock,Exit.then])
     refine AN (Fz rfl _ _ _) rfl ?_;exact⟨by simp[hdR,z.out,y.out],B9.out⟩
    ·have g8:(ce != 0)=true:=(by simpa using j);have y:=hid j;clear j;go_wp2_with fail
     (try simp only[Exit.inBlock,Exit.then])
     refine AN (Fz rfl _ _ _) rfl ?_;exact⟨by simp[hdR,z.out,y.out],B9.out⟩
   ·have g7:(e7 != 0)=true:=(by simpa using i);have z:=hid (E8.out.2 i);have y:=hid i;clear KS C8 E8 i;go_wp2_with fail;go_quiet (fail);go_wp2_with fail
    (try simp only[Exit.inBlock,Exit.then])
    refine AN (Fz rfl _ _ _) rfl ?_;exact⟨by simp[hdR,z.out,y.out],Below.drewN' B8.out _⟩
  ·have g4:decide (1032*(p:Int)+64<(n:Int))=false:=(by simp;omega);have g5:decide (1032*p+64<n)=false:=(by simp;omega);have F6:Hid (RCur w5 g w.heap.size bs B d a3 e5):=(by rw[ab.out G];exact F5.out);have B6:=B5;obtain⟨w6,rfl⟩:∃w6:World,w6=w5:=⟨_,rfl⟩;clear F5 B5 C5 ab G;have d1:=F6.out.cells.2.1;go_wp2_with fail;refine(C6.out _ F6.out).mono ?_;rintro e w7 ⟨v7,rfl,Q,Y,J⟩;obtain⟨A7,c7,rfl⟩:=aZ Q;have F7:=hid Y;have B7:=hid (zY B6.out E J);clear Y J Q F6 B6 C6 d1;go_wp2_with fail;refine(C7.out _ F7.out).mono ?_;rintro e w8 ⟨v8,rfl,aa,U,N⟩;obtain⟨A8,c8,rfl⟩:=aZ aa;have F8:=hid U;have B8:=hid (zY B7.out E N);clear U N aa F7 B7 C7;have d1:=F8.out.cells.2.1;have d2:=F8.out.cells.2.2;by_cases i:e7=0
   ·have g7:(e7 != 0)=false:=(by simp[i]);have ks:=KS.out i;have L:=hid (C8.out i w8 B8.out);have z:=hid (E8.out.1 i);clear KS C8 E8 i;go_wp2_with fail;refine L.out.mono ?_;rintro e w9 ⟨v9,rfl,Z,M⟩;obtain⟨A9,c9,rfl⟩:=aZ Z;have B9:=hid (eZ M B8.out);clear Z M L F8 B8;by_cases j:ce=0
    ·have g8:(ce != 0)=false:=(by simp[j]);have y:=hid j;clear j;go_wp2_with fail
     (try simp only[Exit.inBlock,Exit.then])
     refine AN (Fz rfl _ _ _) rfl ?_;exact⟨by simp[hdR,z.out,y.out],B9.out⟩
    ·have g8:(ce != 0)=true:=(by simpa using j);have y:=hid j;clear j;go_wp2_with fail
     (try simp only[Exit.inBlock,Exit.then])
     refine AN (Fz rfl _ _ _) rfl ?_;exact⟨by simp[hdR,z.out,y.out],B9.out⟩
   ·have g7:(e7 != 0)=true:=(by simpa using i);have z:=hid (E8.out.2 i);have y:=hid i;clear KS C8 E8 i;go_wp2_with fail;go_quiet (fail);go_wp2_with fail
    (try simp only[Exit.inBlock,Exit.then])
    refine AN (Fz rfl _ _ _) rfl ?_;exact⟨by simp[hdR,z.out,y.out],Below.drewN' B8.out _⟩
 ·have g1:decide ((1:Int)<(wy:Int))=false:=by simp;omega
  have ay:decide (1<wy)=false:=by simp;omega
  have F3:Hid (RCur w2 g w.heap.size bs B d a1 e2):=by rw[al.out ak];exact F2.out
  have B3:=B2;obtain⟨w3,rfl⟩:∃w3:World,w3=w2:=⟨_,rfl⟩;clear F2 B2 C2 al ak;go_wp2_with fail;refine(C3.out _ F3.out).mono ?_;rintro e w4 ⟨rfl,ag,ae⟩;have F4:=hid ag;have B4:=hid (zY B3.out E ae);clear ag ae F3 B3 C3;go_wp2_with fail;refine(C4.out _ F4.out).mono ?_;rintro e w5 ⟨rfl,aj,ah⟩;have F5:=hid aj;have B5:=hid (zY B4.out E ah);clear aj ah F4 B4 C4;by_cases G:1032*p+64<n
  ·have g4:decide (1032*(p:Int)+64<(n:Int))=true:=(by simp;omega);have g5:decide (1032*p+64<n)=true:=(by simp;omega);go_wp2_with fail;refine(C5.out G _ F5.out).mono ?_;rintro e w6 ⟨rfl,ai,af⟩;have F6:=hid ai;have B6:=hid (MR B5.out E af);clear ai af F5 B5 C5 ab G g4 g5;have d1:=F6.out.cells.2.1;go_wp2_with fail;refine(C6.out _ F6.out).mono ?_;rintro e w7 ⟨v7,rfl,Q,Y,J⟩;obtain⟨A7,c7,rfl⟩:=aZ Q;have F7:=hid Y;have B7:=hid (zY B6.out E J);clear Y J Q F6 B6 C6 d1;go_wp2_with fail;refine(C7.out _ F7.out).mono ?_;rintro e w8 ⟨v8,rfl,aa,U,N⟩;obtain⟨A8,c8,rfl⟩:=aZ aa;have F8:=hid U;have B8:=hid (zY B7.out E N);clear U N aa F7 B7 C7;have d1:=F8.out.cells.2.1;have d2:=F8.out.cells.2.2;by_cases i:e7=0
   ·have g7:(e7 != 0)=false:=(by simp[i]);have ks:=KS.out i;have L:=hid (C8.out i w8 B8.out);have z:=hid (E8.out.1 i);clear KS C8 E8 i;go_wp2_with fail;refine L.out.mono ?_;rintro e w9 ⟨v9,rfl,Z,M⟩;obtain⟨A9,c9,rfl⟩:=aZ Z;have B9:=hid (eZ M B8.out);clear Z M L F8 B8;by_cases j:ce=0
    ·have g8:(ce != 0)=false:=(by simp[j]);have y:=hid j;clear j;go_wp2_with fail
     (try simp only[Exit.inBlock,Exit.then])
     refine AN (Fz rfl _ _ _) rfl ?_;exact⟨by simp[hdR,z.out,y.out],B9.out⟩
    ·have g8:(ce != 0)=true:=(by simpa using j);have y:=hid j;clear j;go_wp2_with fail
     (try simp only[Exit.inBlock,Exit.then])
     refine AN (Fz rfl _ _ _) rfl ?_;exact⟨by simp[hdR,z.out,y.out],B9.out⟩
   ·have g7:(e7 != 0)=true:=(by simpa using i);have z:=hid (E8.out.2 i);have y:=hid i;clear KS C8 E8 i;go_wp2_with fail;go_quiet (fail);go_wp2_with fail
    (try simp only[Exit.inBlock,Exit.then])
    refine AN (Fz rfl _ _ _) rfl ?_;exact⟨by simp[hdR,z.out,y.out],Below.drewN' B8.out _⟩
  ·have g4:decide (1032*(p:Int)+64<(n:Int))=false:=(by simp;omega);have g5:decide (1032*p+64<n)=false:=(by simp;omega);have F6:Hid (RCur w5 g w.heap.size bs B d a3 e5):=(by rw[ab.out G];exact F5.out);have B6:=B5;obtain⟨w6,rfl⟩:∃w6:World,w6=w5:=⟨_,rfl⟩;clear F5 B5 C5 ab G;have d1:=F6.out.cells.2.1;go_wp2_with fail;refine(C6.out _ F6.out).mono ?_;rintro e w7 ⟨v7,rfl,Q,Y,J⟩;obtain⟨A7,c7,rfl⟩:=aZ Q;have F7:=hid Y;have B7:=hid (zY B6.out E J);clear Y J Q F6 B6 C6 d1;go_wp2_with fail;refine(C7.out _ F7.out).mono ?_;rintro e w8 ⟨v8,rfl,aa,U,N⟩;obtain⟨A8,c8,rfl⟩:=aZ aa;have F8:=hid U;have B8:=hid (zY B7.out E N);clear U N aa F7 B7 C7;have d1:=F8.out.cells.2.1;have d2:=F8.out.cells.2.2;by_cases i:e7=0
   ·have g7:(e7 != 0)=false:=(by simp[i]);have ks:=KS.out i;have L:=hid (C8.out i w8 B8.out);have z:=hid (E8.out.1 i);clear KS C8 E8 i;go_wp2_with fail;refine L.out.mono ?_;rintro e w9 ⟨v9,rfl,Z,M⟩;obtain⟨A9,c9,rfl⟩:=aZ Z;have B9:=hid (eZ M B8.out);clear Z M L F8 B8;by_cases j:ce=0
    ·have g8:(ce != 0)=false:=(by simp[j]);have y:=hid j;clear j;go_wp2_with fail
     (try simp only[Exit.inBlock,Exit.then])
     refine AN (Fz rfl _ _ _) rfl ?_;exact⟨by simp[hdR,z.out,y.out],B9.out⟩
    ·have g8:(ce != 0)=true:=(by simpa using j);have y:=hid j;clear j;go_wp2_with fail
     (try simp only[Exit.inBlock,Exit.then])
     refine AN (Fz rfl _ _ _) rfl ?_;exact⟨by simp[hdR,z.out,y.out],B9.out⟩
   ·have g7:(e7 != 0)=true:=(by simpa using i);have z:=hid (E8.out.2 i);have y:=hid i;clear KS C8 E8 i;go_wp2_with fail;go_quiet (fail);go_wp2_with fail
    (try simp only[Exit.inBlock,Exit.then])
    refine AN (Fz rfl _ _ _) rfl ?_;exact⟨by simp[hdR,z.out,y.out],Below.drewN' B8.out _⟩
end Block
end Go.Proofs.YtbgoibedicbkjaaGreatDoor

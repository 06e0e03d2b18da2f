/- The reference's read -/
import Derived.Test.YtfgdoknipbpfhaaGreatDoorZTwoBack10
import Derived.Test.YtfgdoknipbpfhaaGreatDoorZTwoBack36
import Derived.Test.YtfgdoknipbpfhaaGreatDoorZTwoBack21
namespace Go.Proofs.YtfgdoknipbpfhaaGreatDoor
open Go.Proofs.Tryz
open Go.Lib (hid)
set_option maxHeartbeats 2000000
set_option maxRecDepth 100000
section
variable{fb g i n:Nat}{u:Value}{j:Int}{w w1 w2:World}
def Di(bs:List Nat):Nat:=Er bs 0 0
def hA1(bs:List Nat):Nat:=takeA bs 0 0 1
def hE1(bs:List Nat):Int:=Bq bs 0 0 1
def Ai6(bs:List Nat):Int:=if 1<Di bs then ES (hE1 bs) 2 else hE1 bs
def Aj0(bs:List Nat):Nat:=AV 32768 bs (hA1 bs) (Ai6 bs)
def Ai4(bs:List Nat):Nat:=uZ 32768 bs (hA1 bs) (Ai6 bs)
def Ai8(bs:List Nat):Int:=wZ 32768 bs (hA1 bs) (Ai6 bs)
def Ai2(bs:List Nat):Nat:=AV 32768 bs (Ai4 bs) (Ai8 bs)
def hA3(bs:List Nat):Nat:=uZ 32768 bs (Ai4 bs) (Ai8 bs)
def Aj4(bs:List Nat):Int:=wZ 32768 bs (Ai4 bs) (Ai8 bs)
def Aj8(bs:List Nat):Int:=if 1032*Ai2 bs+64<Aj0 bs then ES (Aj4 bs) 6 else Aj4 bs
def CR(bs:List Nat):List Nat:=Bj bs (hA3 bs) (Aj8 bs) (Ai2 bs)
def Aj2(bs:List Nat):Nat:=takeA bs (hA3 bs) (Aj8 bs) (Ai2 bs)
def hE6(bs:List Nat):Int:=Bq bs (hA3 bs) (Aj8 bs) (Ai2 bs)
def Aj6(bs:List Nat):Nat:=takeA bs (Aj2 bs) (hE6 bs) 4
def hE7(bs:List Nat):Int:=Bq bs (Aj2 bs) (hE6 bs) 4
def hE8(bs:List Nat):Int:=if hE7 bs≠0 then hE7 bs else BI (bs.take (Aj6 bs))
def byE(way n p:Nat)(body:List Nat):Int:=
 if way=0 then if n≠p then 2 else 0
 else if(CE body n).2≠0 then(CE body n).2
 else if(Gg (CE body n).1 n).2≠0 then(Gg (CE body n).1 n).2
 else if(Gg (CE body n).1 n).1.length<n then 2 else 0
def byO(way n p:Nat)(body:List Nat):List Nat:=if byE way n p body≠0 then []else if way=0 then body else(Gg (CE body n).1 n).1
def opE(bs:List Nat):Int:=if hE8 bs≠0 then hE8 bs else byE (Di bs) (Aj0 bs) (Ai2 bs) (CR bs)
def opO(bs:List Nat):List Nat:=if opE bs≠0 then []else byO (Di bs) (Aj0 bs) (Ai2 bs) (CR bs)
def opA(bs:List Nat):Nat:=if opE bs≠0 then 0 else Aj6 bs
theorem XK{bs:List Nat}(h8:∀x∈bs,x<=255)(at_:Nat)(er:Int):Er bs at_ er<=255:=by
 unfold Er;split
 ·omega
 ·by_cases h:at_<bs.length
  ·rw[Aq,Az h];exact h8 _ (FM h)
  ·rw[Aq,FN nj];show 0<=255;omega
theorem Vd{bs:List Nat}(h8:∀x∈bs,x<=255)(most at_:Nat)(er:Int):AV most bs at_ er<=most:=by
 unfold AV;split
 ·omega
 ·exact(Hu most (bs.drop at_) (fun x hx=>h8 x (Bz hx))).1
theorem Ag6{bs:List Nat}(h8:∀x∈bs,x<=255)(most at_:Nat)(er:Int)(h:at_<=bs.length):uZ most bs at_ er<=bs.length:=by
 exact a3d
theorem aU(bs:List Nat):hA1 bs<=bs.length:=Il bs 0 0 1 (Bf _)
section
variable {bs:List Nat} (h8:∀x∈bs,x<=255)
include h8
theorem Z7:Ai4 bs<=bs.length:=Ag6 h8 _ _ _ (aU bs)
theorem ZN:hA3 bs<=bs.length:=Ag6 h8 _ _ _ (Z7 h8)
theorem Zo:Aj2 bs<=bs.length:=Il bs _ _ _ (ZN h8)
theorem U1:Aj6 bs<=bs.length:=Il bs _ _ _ (Zo h8)
theorem NO:Aj0 bs<=32768:=Vd h8 _ _ _
theorem NH:Ai2 bs<=32768:=Vd h8 _ _ _
theorem WP:Di bs<=255:=XK h8 _ _
end
theorem Wl{bs:List Nat}{at_:Nat}{er:Int}{x:Nat}(h:x∈Bj bs at_ er n):x∈bs:=by
 unfold Bj at h;split at h
 ·cases h
 ·split at h
  ·cases h
  ·exact Bz (BX h)
open Go.RowKit
structure Fr (w:World) (fb g base:Nat) (bs:List Nat) (A:Option Addr) (c at_:Nat) (er:Int) (way n p:Nat) (bv:Value):Prop where
 blk:Blk w fb 262 #[.pointer (some ⟨g,0,none⟩),way,n,p,bv]
 cur:Cur w g base bs A c at_ er
 lo:base<=fb
section
variable {w w':World} {fb g base:Nat} {bs:List Nat} {A:Option Addr} {c at_:Nat} {er:Int} {way n p:Nat} {bv:Value}
theorem Fr.ne(h:Fr w fb g base bs A c at_ er way n p bv):fb≠g:=Blk.apart h.blk h.cur.blk ip
theorem Fr.drew(h:Fr w fb g base bs A c at_ er way n p bv):Fr w.drew fb g base bs A c at_ er way n p bv:=⟨h.blk,h.cur.drew,h.lo⟩
theorem Fr.drewN(h:Fr w fb g base bs A c at_ er way n p bv)(q:Nat):Fr (w.drewN q) fb g base bs A c at_ er way n p bv:=⟨h.blk,h.cur.drewN q,h.lo⟩
theorem Fr.ptr(h:Fr w fb g base bs A c at_ er way n p bv):w.cell? ⟨fb,0,none⟩=some (.pointer (some ⟨g,0,none⟩)):=h.blk.cell 0
theorem Ah2(h:Cur w g base bs A c at_ er){cs:Array Value}(hb:Blk w fb 262 cs):Cur (w.setCell ⟨fb,i,none⟩ u) g base bs A c at_ er:=
 ⟨h.blk.far (fun e=>Blk.apart hb h.blk ip e.symm) _,BK h.own (gZ h.own hb ip) _,h.le,h.lo⟩
theorem Fr.on(h:Fr w fb g base bs A c at_ er way n p bv)(hc:Cur w' g base bs A c i j)(hk:Kept (Bh g w) w w'):Fr w' fb g base bs A c i j way n p bv:=
 ⟨(hk.block fb ⟨h.blk.lt,h.ne⟩).trans h.blk,hc,h.lo⟩
theorem Fr.fail(h:Fr w fb g base bs A c at_ er way n p bv)(hc:Cur w' g base bs A c i j)(hk:Kept (fun x=>x≠g) w w'):Fr w' fb g base bs A c i j way n p bv:=
 ⟨(hk.block fb h.ne).trans h.blk,hc,h.lo⟩
theorem Fr.setWay(h:Fr w fb g base bs A c at_ er way n p bv)(x:Nat):Fr (w.setCell ⟨fb,1,none⟩ (.int .i64 x)) fb g base bs A c at_ er x n p bv:=⟨h.blk.set 1 _,Ah2 h.cur h.blk,h.lo⟩
theorem Fr.setN(h:Fr w fb g base bs A c at_ er way n p bv)(x:Nat):Fr (w.setCell ⟨fb,2,none⟩ (.int .i64 x)) fb g base bs A c at_ er way x p bv:=⟨h.blk.set 2 _,Ah2 h.cur h.blk,h.lo⟩
theorem Fr.setP(h:Fr w fb g base bs A c at_ er way n p bv)(x:Nat):Fr (w.setCell ⟨fb,3,none⟩ (.int .i64 x)) fb g base bs A c at_ er way n x bv:=⟨h.blk.set 3 _,Ah2 h.cur h.blk,h.lo⟩
theorem Fr.setB(h:Fr w fb g base bs A c at_ er way n p bv)(x:Value):Fr (w.setCell ⟨fb,4,none⟩ x) fb g base bs A c at_ er way n p x:=⟨h.blk.set 4 _,Ah2 h.cur h.blk,h.lo⟩
end
def Rest(fb g:Nat)(w:World)(x:Nat):Prop:=x<w.heap.size/\x≠g/\x≠fb
theorem JI(h:Kept (Rest fb g w) w w1)(k:Kept (Bh g w1) w1 w2):Kept (Rest fb g w) w w2:=
 h.trans ⟨k.os,k.tape,k.output,k.size,fun x hx=>k.block x ⟨by have:=hx.1;have:=h.size;omega,hx.2.1⟩⟩
theorem Oq(h:Kept (Rest fb g w) w w1)(k:Kept (fun x=>x≠g) w1 w2):Kept (Rest fb g w) w w2:=
 h.trans ⟨k.os,k.tape,k.output,k.size,fun x hx=>k.block x hx.2.1⟩
theorem Kf(h:Kept (Rest fb g w) w w1):Kept (Rest fb g w) w (w1.setCell ⟨fb,i,none⟩ u):=h.set (fun h=>h.2.2 rfl) _
theorem a0m{p:Prop}(h:p:=by
  go_wp2_with fail;refine(C3.out _ F3.out.cur).mono ?_;rintro e w4 ⟨rfl,E,z⟩;have F4:=F3.out.on E z;have K4:Hid (Kept (Rest fb g w) w w4):=JI K3.out z;have f2:=F4.blk.frozen 2;have q2:=F4.blk.ia 2;have F5:=hid (F4.setN n);have K5:Hid (Kept (Rest fb g w) w (w4.setCell ⟨fb,2,none⟩ (.int .i64 n))):=Kf K4.out;clear E z F3 K3 K4 C3 d0 F4;go_upto_region 4 with fail;generalize w4.setCell ⟨fb,2,none⟩ (.int .i64 n)=w5 at *;clear f2 q2;have d0:=F5.out.ptr;go_wp2_with fail;refine(C4.out _ F5.out.cur).mono ?_;rintro e w6 ⟨rfl,G,j⟩;have F6:=F5.out.on G j;have K6:Hid (Kept (Rest fb g w) w w6):=JI K5.out j;have f3:=F6.blk.frozen 3;have q3:=F6.blk.ia 3;have F7:=hid (F6.setP p);have K7:Hid (Kept (Rest fb g w) w (w6.setCell ⟨fb,3,none⟩ (.int .i64 p))):=Kf K6.out;clear G j F5 K5 K6 C4 d0 F6;go_upto_region 5 with fail;generalize w6.setCell ⟨fb,3,none⟩ (.int .i64 p)=w7 at *;clear f3 q3;have d0:=F7.out.ptr;have d2:=F7.out.blk.ia 2;have d3:=F7.out.blk.ia 3;by_cases i:1032*p+64<n
  ·have g4:=ic (1032*(p:Int)+64<(n:Int));have g5:=ic (1032*p+64<n);go_quiet (fail);have F8:=hid (F7.out.drewN nq);go_wp2_with fail;refine(C5.out i _ F8.out.cur).mono ?_;rintro e w8 ⟨rfl,J,y⟩;have F9:=hid (F8.out.fail J y);have K9:Hid (Kept (Rest fb g w) w w8):=Oq (K7.out.drewN nq) y;clear J y F8 F7 K7 C5 M d0 d2 d3;go_wp2_with fail;refine bodyPost_end (Cb rfl _ _ _) rfl ?_;exact⟨rfl,F9.out,K9.out⟩
  ·have g4:=ig (1032*(p:Int)+64<(n:Int));have g5:=ig (1032*p+64<n);have F8:Hid (Fr w7 fb g base bs A c a3 e5 wy n p bv):=(by rw[M.out i];exact F7.out);go_quiet (fail);go_wp2_with fail;refine bodyPost_end (Cb rfl _ _ _) rfl ?_;exact⟨rfl,F8.out.drewN _,K7.out.drewN _⟩):p:=h
theorem Ak0(w:World)(fb g base:Nat)(bs:List Nat)(A:Option Addr)(c:Nat)(bv:Value)(Y:bs.length<=100000)(h8:∀x∈bs,x<=255)(h:Fr w fb g base bs A c 0 0 0 0 0 bv):
 Calls prog 248 #[.pointer (some ⟨fb,0,none⟩)] w fun e w'=>e= .returned (.tuple #[])/\Fr w' fb g base bs A c (hA3 bs) (Aj8 bs) (Di bs) (Aj0 bs) (Ai2 bs) bv/\Kept (Rest fb g w) w w':=by
 have C1:Hid (∀wx,Cur wx g base bs A c 0 0->Calls prog 219 #[.pointer (some ⟨g,0,none⟩)] wx fun e w'=>e= .returned (.int .u8 (Di bs:Nat))/\Cur w' g base bs A c (hA1 bs) (hE1 bs)/\Kept (Bh g wx) wx w'):=fun wx hc=>NE wx g base bs A c 0 0 Y hc;have C2:Hid (1<Di bs->∀wx,Cur wx g base bs A c (hA1 bs) (hE1 bs)->Calls prog 186 #[.pointer (some ⟨g,0,none⟩), .int .i64 2] wx fun e w'=>e= .returned (.tuple #[])/\Cur w' g base bs A c (hA1 bs) (Ai6 bs)/\Kept (fun x=>x≠g) wx w'):=fun h1 wx hc=>by rw[show Ai6 bs=ES (hE1 bs) 2 from Ab h1];exact GS wx g base bs A c _ _ 2 hc
 have U:Hid (¬1<Di bs->Ai6 bs=hE1 bs):=fun h1=>Aa h1;have C3:Hid (∀wx,Cur wx g base bs A c (hA1 bs) (Ai6 bs)->Calls prog 112 #[.pointer (some ⟨g,0,none⟩), .int .i64 32768] wx fun e w'=>e= .returned (.int .i64 (Aj0 bs:Nat))/\Cur w' g base bs A c (Ai4 bs) (Ai8 bs)/\Kept (Bh g wx) wx w'):=fun wx hc=>GO wx g base bs A c _ _ 32768 Y h8 nj hc;have C4:Hid (∀wx,Cur wx g base bs A c (Ai4 bs) (Ai8 bs)->Calls prog 112 #[.pointer (some ⟨g,0,none⟩), .int .i64 32768] wx fun e w'=>e= .returned (.int .i64 (Ai2 bs:Nat))/\Cur w' g base bs A c (hA3 bs) (Aj4 bs)/\Kept (Bh g wx) wx w'):=fun wx hc=>GO wx g base bs A c _ _ 32768 Y h8 nj hc;have C5:Hid (1032*Ai2 bs+64<Aj0 bs->∀wx,Cur wx g base bs A c (hA3 bs) (Aj4 bs)->Calls prog 186 #[.pointer (some ⟨g,0,none⟩), .int .i64 6] wx fun e w'=>e= .returned (.tuple #[])/\Cur w' g base bs A c (hA3 bs) (Aj8 bs)/\Kept (fun x=>x≠g) wx w'):=fun h1 wx hc=>by rw[show Aj8 bs=ES (Aj4 bs) 6 from Ab h1];exact GS wx g base bs A c _ _ 6 hc
 have M:Hid (¬1032*Ai2 bs+64<Aj0 bs->Aj8 bs=Aj4 bs):=fun h1=>Aa h1;have ae:=WP h8;have af:=NO h8;have ac:=NH h8;generalize Di bs=wy at *;generalize Aj0 bs=n at *;generalize Ai2 bs=p at *;generalize hA1 bs=a1 at *;generalize Ai4 bs=a2 at *;generalize hA3 bs=a3 at *;generalize hE1 bs=e1 at *;generalize Ai6 bs=e2 at *;generalize Ai8 bs=e3 at *;generalize Aj4 bs=e4 at *;generalize Aj8 bs=e5 at *;have d0:=h.ptr;have H:=hid h;have s1:IntKind.i64.wrap (wy:Int)=(wy:Int):=pi
 have s2:IntKind.i64.wrap (1032*(p:Int))=1032*(p:Int):=pi
 have s3:IntKind.i64.wrap (1032*(p:Int)+64)=1032*(p:Int)+64:=pi
 clear h h8;go_enter func248,ntmps248;go_wp2_with fail;refine(C1.out _ H.out.cur).mono ?_;rintro e w1 ⟨rfl,ab,N⟩;have F1:=H.out.on ab N;have K1:Hid (Kept (Rest fb g w) w w1):=JI (Kept.refl _ _) N;have f1:=F1.blk.frozen 1;have q1:=F1.blk.ia 1;have F2:=hid (F1.setWay wy);have K2:Hid (Kept (Rest fb g w) w (w1.setCell ⟨fb,1,none⟩ (.int .i64 wy))):=Kf K1.out;have d0:=F1.ptr;clear F1 ab N K1 H C1;go_upto_region 1 with fail;generalize w1.setCell ⟨fb,1,none⟩ (.int .i64 wy)=w2 at *;clear d0 f1 q1;have d0:=F2.out.ptr;have d1:=F2.out.blk.ia 1;by_cases L:1<wy
 ·have g1:=ic ((1:Int)<wy)
  have aa:=ic (1<wy)
  go_wp2_with fail;refine(C2.out L _ F2.out.cur).mono ?_;rintro e w3 ⟨rfl,Z,Q⟩;have F3:=hid (F2.out.fail Z Q);have K3:Hid (Kept (Rest fb g w) w w3):=Oq K2.out Q;clear Z Q F2 K2 d0 d1 C2 U L g1 aa;have d0:=F3.out.ptr;exact a0m
 ·have g1:=ig ((1:Int)<wy)
  have aa:=ig (1<wy)
  have F3:Hid (Fr w2 fb g base bs A c a1 e2 wy 0 0 bv):=by rw[U.out L];exact F2.out
  have K3:=K2;obtain⟨w3,rfl⟩:=ii w2;clear F2 K2 C2 U L;exact a0m
theorem Ab8(w:World)(fb g base:Nat)(bs:List Nat)(A:Option Addr)(c:Nat)(way n p:Nat)(X:Option Addr)(d:Nat)(ag:bs.length<=100000)(hd:bs.length<=d)(h8:∀x∈bs,x<=255)(hp:p=Ai2 bs)(ht:TabAt w)
 (hx:Row w w X bs.length 1 (jZ .u8 bs))(hX:0<bs.length->∀a,X=some a->a.add 0=a)(ak:0<bs.length->∀a,X=some a->a.block≠g/\a.block≠fb)(Y:0≠g/\0≠fb)(ah:base<=w.heap.size)
 (h:Fr w fb g base bs A c (hA3 bs) (Aj8 bs) way n p (.slice none 0 0)):
 Calls prog 249 #[.pointer (some ⟨fb,0,none⟩), .slice X bs.length d] w fun e w'=>e= .returned (.tuple #[])/\∃v,w'.ownsRow base 5 1 v (CR bs).length (dZ .u8 (CR bs))/\Fr w' fb g base bs A c (Aj6 bs) (hE8 bs) way n p v/\Kept (Rest fb g w) w w':=by
 have an:=U1 h8;have C1:Hid (∀wx,Cur wx g base bs A c (hA3 bs) (Aj8 bs)->Calls prog 187 #[.pointer (some ⟨g,0,none⟩),p] wx fun e w'=>∃v,e= .returned v/\w'.ownsRow wx 5 1 v (CR bs).length (dZ .u8 (CR bs))/\Cur w' g base bs A c (Aj2 bs) (hE6 bs)/\Kept (Bh g wx) wx w'):=fun wx hc=>by subst hp;exact JA wx g base bs A c _ _ (Ai2 bs) ag (by have:=NH h8;omega) hc
 have C2:Hid (∀wx,Cur wx g base bs A c (Aj2 bs) (hE6 bs)->Calls prog 187 #[.pointer (some ⟨g,0,none⟩), .int .i64 4] wx fun e w'=>∃v,e= .returned v/\w'.ownsRow wx 5 1 v (Bj bs (Aj2 bs) (hE6 bs) 4).length (dZ .u8 (Bj bs (Aj2 bs) (hE6 bs) 4))/\Cur w' g base bs A c (Aj6 bs) (hE7 bs)/\Kept (Bh g wx) wx w'):=fun wx hc=>JA wx g base bs A c _ _ 4 ag nj hc;have C3:Hid (∀wx er,Cur wx g base bs A c (Aj6 bs) er->Calls prog 113 #[.pointer (some ⟨g,0,none⟩)] wx fun e w'=>e= .returned (.int .i64 er)/\w'=wx):=fun wx er hc=>Dn wx g base bs A c _ er hc;have C4:Hid (∀wx er,Cur wx g base bs A c (Aj6 bs) er->Calls prog 195 #[.pointer (some ⟨g,0,none⟩)] wx fun e w'=>e= .returned (.int .i64 (Aj6 bs:Nat))/\w'=wx):=fun wx er hc=>Ig wx g base bs A c _ er hc;have ai:∀x∈bs.take (Aj6 bs),x<=255:=fun x hx=>h8 x (BX hx);have af:(bs.take (Aj6 bs)).length=Aj6 bs:=oj
 have ac:hE7 bs=0->0<bs.length:=fun h=>by
  unfold hE7 Bq at h;split at h
  ·contradiction
  ·split at h
   ·cases h
   ·omega
 have KS:=hid (fun(h:hE7 bs=0) wx=>EG (P:=prog) (t:=28) (s:=1) underlying28 (fun _=>by kernel_rfl) X bs.length d .i64 ((Aj6 bs:Nat):Int) (Aj6 bs) rfl nj (hX (ac h)) wx);have aa:∀wx,Kept (Rest fb g w) w wx->TabAt wx/\Row wx wx X (Aj6 bs) 1 (jZ .u8 (bs.take (Aj6 bs))):=fun wx hk=>by refine⟨fun i hi=>(World.cell?_of_block (a:=⟨_,i,none⟩) (hk.block _ ⟨ht.lt,Y.1,Y.2⟩)).trans (ht i hi),?_⟩;refine Fj (n:=bs.length) ?_ an;intro h0;obtain⟨b,o,e,hb,hc⟩:=hx h0;have ab:=ak h0 _ e;refine⟨b,o,e,by have:=hk.size;omega,fun i j hi hj=> ?_⟩;exact(World.cell?_of_block (a:=⟨b,o+(i*1+j),none⟩) (hk.block b ⟨hb,ab.1,ab.2⟩)).trans (hc i j hi hj)
 have C5:Hid (∀wx,Kept (Rest fb g w) w wx->Calls prog 60 #[.slice X (Aj6 bs) d] wx (GK (bs.take (Aj6 bs)) wx)):=fun wx hk=>KF wx X (Aj6 bs) d _ af nj nj ai (aa wx hk).1 (aa wx hk).2;have C6:Hid (∀wx er e2,Cur wx g base bs A c (Aj6 bs) er->Calls prog 186 #[.pointer (some ⟨g,0,none⟩), .int .i64 e2] wx fun e w'=>e= .returned (.tuple #[])/\Cur w' g base bs A c (Aj6 bs) (ES er e2)/\Kept (fun x=>x≠g) wx w'):=fun wx er e2 hc=>GS wx g base bs A c _ er e2 hc;have E8:Hid ((hE7 bs≠0->hE8 bs=hE7 bs)/\(hE7 bs=0->hE8 bs=ES 0 (BI (bs.take (Aj6 bs))))):=⟨fun h=>Ab h,fun h=>(Aa qz).trans rfl⟩;unfold GK at C5;have H:=hid h;clear ht hx hX ak ac Y af ai aa hp h8 h;generalize hA3 bs=a3 at *;generalize Aj2 bs=a4 at *;generalize Aj6 bs=a5 at *;generalize Aj8 bs=e5 at *;generalize hE6 bs=e6 at *;generalize hE7 bs=e7 at *;generalize hE8 bs=e8 at *;generalize CR bs=body at *;generalize Bj bs a4 e6 4=aq at *;generalize BI (bs.take a5)=ce at *;generalize AJ (bs.take a5)=co at *;have d0:=H.out.ptr;have d3:=H.out.blk.ia 3;have d4:=H.out.blk.ia 4;have f4:=H.out.blk.frozen 4;go_enter func249,ntmps249;go_upto_region 0 with fail;have F0:=H.out.drew;go_region_held3 (fun wx=>wx.cell? ⟨fb,0,none⟩=some (.pointer (some ⟨g,0,none⟩))/\wx.cell? ⟨fb,3,none⟩=some (.int .i64 p)) (first|exact⟨d0,d3⟩|exact k0|exact k1) (first|(go_at_call 187;(with_reducible refine(C1.out _ F0.cur).mono ?_);rintro e w1 ⟨v,rfl,y,al,M⟩;obtain⟨va,vc,rfl⟩:=bZ y;have F1:=F0.on al M;have k0:w1.cell? ⟨fb,0,none⟩=some (.pointer (some ⟨g,0,none⟩))/\w1.cell? ⟨fb,3,none⟩=some (.int .i64 p):=⟨F1.ptr,F1.blk.cell 3⟩;have q4:w1.cell? ⟨fb,4,none⟩=some (.slice none 0 0):=F1.blk.cell 4;have qf:w1.frozen? ⟨fb,4,none⟩=false:=F1.blk.frozen 4;have F2:=F1.setB (.slice va body.length vc);have k1:(w1.setCell ⟨fb,4,none⟩ (.slice va body.length vc)).cell? ⟨fb,0,none⟩=some (.pointer (some ⟨g,0,none⟩))/\(w1.setCell ⟨fb,4,none⟩ (.slice va body.length vc)).cell? ⟨fb,3,none⟩=some (.int .i64 p):=⟨F2.ptr,F2.blk.cell 3⟩));have K1:Hid (Kept (Rest fb g w) w (w1.setCell ⟨fb,4,none⟩ (.slice va body.length vc))):=Kf (JI ((Kept.refl _ _).drew) M);have L:=hid (kZ (BK (p:=⟨fb,4,none⟩) y (gZ y F1.blk ip) (.slice va body.length vc)) (show w.heap.size<=_ from Ak _));have F2:=hid F2;have ar:=M.size;have av:(w1.setCell ⟨fb,4,none⟩ (.slice va body.length vc)).heap.size=w1.heap.size:=rX
 generalize w1.setCell ⟨fb,4,none⟩ (.slice va body.length vc)=w2 at *;clear k0 k1 q4 qf y al M F1 F0 d0 d3 d4 f4 H C1;have d0:=F2.out.ptr;go_wp2_with fail;refine(C2.out _ F2.out.cur).mono ?_;rintro e w3 ⟨v3,rfl,E,aj,Q⟩;obtain⟨ax,ay,rfl⟩:=bZ E;have F3:=hid (F2.out.on aj Q);have K3:Hid (Kept (Rest fb g w) w w3):=JI K1.out Q;have U:Hid (w3.ownsRow w 5 1 (.slice va body.length vc) body.length (dZ .u8 body)):=eZ L.out (fun x hx=>Q.block x ⟨(Aj L.out x hx).2,fun e=>gZ L.out F2.out.cur.blk ip (hx.trans (Aw some e))⟩);clear E aj Q F2 K1 L d0 C2;have d0:=F3.out.ptr;go_wp2_with fail;refine(C3.out _ _ F3.out.cur).mono ?_;rintro e w4 ⟨rfl,rfl⟩;by_cases z:e7=0
 ·have hE:=E8.out.2 z;have ks:=KS.out z;subst z;clear KS;go_wp2_with fail;refine(C4.out _ _ F3.out.cur).mono ?_;rintro e w5 ⟨rfl,rfl⟩;go_wp2_with fail;refine(C5.out _ K3.out).mono ?_;rintro e w6 ⟨v6,rfl,J,G⟩;obtain⟨au,aw,rfl⟩:=bZ J;have F6:Hid (Fr w6 fb g base bs A c a5 0 way n p (.slice va body.length vc)):=⟨F3.out.blk.step G,F3.out.cur.step G,F3.out.lo⟩;have K6:Hid (Kept (Rest fb g w) w w6):=K3.out.trans (Kept.of_below G (fun x hx=>by have:=hx.1;have:=K3.out.size;omega));have Z:Hid (w6.ownsRow w 5 1 (.slice va body.length vc) body.length (dZ .u8 body)):=eZ U.out (fun x hx=>G.block x (Aj U.out x hx).2);clear J G F3 K3 U d0 C3 C4 C5;have d0:=F6.out.ptr;go_wp2_with fail;refine(C6.out _ _ ce F6.out.cur).mono ?_;rintro e w7 ⟨rfl,ae,N⟩;have F7:=hid (F6.out.fail ae N);have K7:Hid (Kept (Rest fb g w) w w7):=Oq K6.out N;have am:Hid (w7.ownsRow w 5 1 (.slice va body.length vc) body.length (dZ .u8 body)):=eZ Z.out (fun x hx=>N.block x (fun e=>gZ Z.out F6.out.cur.blk ip (hx.trans (Aw some e))));have HE:=hid hE;clear ae N F6 K6 Z d0 C6 hE;go_wp2_with fail;refine bodyPost_end (Cb rfl _ _ _) rfl ?_;exact⟨rfl,_,kZ am.out ah,by rw[HE.out];exact F7.out,K7.out⟩
 ·have hE:=E8.out.1 z;have g1:(e7 != 0)=true:=by simpa using z
  have HE:=hid hE;clear hE z;go_wp2_with fail;refine Bx (Cb rfl _ _ _) rfl ?_;exact⟨rfl,_,kZ U.out ah,by rw[HE.out];exact F3.out,K3.out⟩
theorem SC{body:List Nat}(he:(CE body n).2=0):∀t∈(CE body n).1,(0<=t.lit/\t.lit<=255)/\Bb t.lit t.len t.dist=true:=fun t ht=>by have h:=((OQ body n).1 he).1 t ht;exact⟨h.2.1,h.1⟩
theorem dO(ts:List Tk):(ts.length:Int)<=Cz ts:=by
 induction ts with
 |nil=>simp[Cz]
 |cons t ts ih=>simp only[Cz,List.length_cons];omega
theorem mH{body:List Nat}(he:(CE body n).2=0):(CE body n).1.length<=n:=by have h:=((OQ body n).1 he).2;have:=dO (CE body n).1;omega
def Ag2(base way n p:Nat)(body:List Nat)(w:World)(e:Ending)(w':World):Prop:=
 ∃v,e= .returned (.tuple #[v, .int .i64 (byE way n p body)])/\w'.ownsRow base 5 1 v (byO way n p body).length (dZ .u8 (byO way n p body))/\Below w w w'
theorem a3n{p:Prop}(h:p:=by generalize out.length=ol at *;go_wp2_with fail;go_ret2;exact⟨_,rfl,AI _ _ _ _,aa.out⟩):p:=h
theorem Ag4(w:World)(fb g base:Nat)(bs:List Nat)(A:Option Addr)(c at_:Nat)(er:Int)(way n p:Nat)(va:Option Addr)(vc:Nat)(body:List Nat)(hn:n<=32768)(hp:p<=32768)(aj:body.length<=100000)(h8:∀x∈body,x<=255)(al:base<=w.heap.size)
 (G:w.ownsRow base 5 1 (.slice va body.length vc) body.length (dZ .u8 body))(h:Fr w fb g base bs A c at_ er way n p (.slice va body.length vc)):
 Calls prog 250 #[.pointer (some ⟨fb,0,none⟩)] w (Ag2 base way n p body w):=by
 have d0:=h.ptr;have d1:=h.blk.ia 1;have d2:=h.blk.ia 2;have d3:=h.blk.ia 3;have d4:=h.blk.ia 4;unfold Ag2;by_cases hw:way=0
 ·subst hw;by_cases ae:n=p
  ·subst ae;have hE:byE 0 n n body=0:=(by unfold byE;rw[Ab rfl,Aa rX]);have hO:byO 0 n n body=body:=(by unfold byO;rw[hE,Aa rX,Ab rfl]);rw[hE,hO];have g1:((n:Int) != (n:Int))=false:=rX;have HO:=hid G;clear h h8 hE hO G;generalize N:body.length=L at *;clear N;go_enter func250,ntmps250;go_wp2_with fail;go_quiet (fail);go_wp2_with fail;go_ret2;exact⟨_,rfl,eZ HO.out (fun x hx=>rfl),below_drewN (Ae _ _) _⟩
  ·have hE:byE 0 n p body=2:=(by unfold byE;rw[Ab rfl,Ab ae]);have hO:byO 0 n p body= []:=(by unfold byO;rw[hE,Ab rX]);rw[hE,hO];have g1:((n:Int) != (p:Int))=true:=sj;clear h h8 hE hO G ae;go_enter func250,ntmps250;go_wp2_with fail;go_quiet (fail);go_wp2_with fail;go_ret2;exact⟨_,rfl,AI _ _ _ _,below_drewN (Ae _ _) _⟩
 ·have g0:((way:Int)==0)=false:=by rw[Hm];intro h;simp at h;omega
  have C1:Hid (∀wx,Below w w wx->Calls prog 299 #[.slice va body.length vc,n] wx (L1 (CE body n) wx)):=fun wx hb=>Ak4 wx va body.length vc body n nj nj rfl aj h8 (JT G) ((Ab5 G).below hb |>.mono hb.size);have Q:=SC (body:=body) (n:=n);have U:=mH (body:=body) (n:=n);have hE:=show byE way n p body=_ from Aa hw
  have hO:byO way n p body=if byE way n p body≠0 then []else(Gg (CE body n).1 n).1:=by unfold byO;rw[Aa hw]
  unfold L1 at C1;generalize CE body n=R at *;obtain⟨ts,e1⟩:=R;simp only at hE hO C1 Q U;by_cases Y:e1=0
  ·subst Y;rw[Aa rX]at hE;have U:=U rfl;have Q:=Q rfl;have C2:Hid (∀wx A2 c2,Row wx wx A2 ts.length 3 (Hy ts)->Calls prog 300 #[.slice A2 ts.length c2,n] wx (MJ (Gg ts n) wx)):=fun wx A2 c2 hr=>l9 wx A2 ts.length c2 ts n nj rfl nj Q hr;unfold MJ at C2;generalize Gg ts n=P at *;obtain⟨out,e2⟩:=P;simp only at hE hO C2;by_cases Z:e2=0
   ·subst Z;rw[Aa rX]at hE;by_cases hl:out.length<n
    ·rw[Ab hl]at hE;have J:byO way n p body= []:=(by rw[hO,hE,Ab rX]);rw[hE,J];have g5:=ic ((out.length:Int)<n);have g6:=ic (out.length<n);clear hl;have H:=hid h;have hL:body.length=body.length:=rfl;clear h8 hE hO J G hw hL h;generalize N:body.length=L at *;clear N d3;go_enter func250,ntmps250;go_upto_region 5 with fail;go_region_held3 (fun wx=>wx.cell? ⟨fb,4,none⟩=some (.slice va L vc)/\wx.cell? ⟨fb,2,none⟩=some (.int .i64 n)) (first|exact⟨d4,d2⟩|exact k0) (first|(go_at_call 299;(with_reducible refine(C1.out _ sT).mono ?_);rintro e w2 ⟨v2,rfl,i,j⟩;obtain⟨ac,ab,rfl⟩:=bZ i;have k0:w2.cell? ⟨fb,4,none⟩=some (.slice va L vc)/\w2.cell? ⟨fb,2,none⟩=some (.int .i64 n):=⟨(H.out.drew.blk.step j).cell 4,(H.out.drew.blk.step j).cell 2⟩));have F2:=hid (⟨H.out.drew.blk.step j,H.out.drew.cur.step j,H.out.lo⟩:Fr w2 fb g base bs A c at_ er way n p (.slice va L vc));have M:Hid (Below w w w2):=(Ae _ _).drew.trans j;clear j k0 d0 d1 d2 d4 C1 H;have d2:w2.cell? ⟨fb,2,none⟩=some (.int .i64 n):=F2.out.blk.cell 2;have z:=Nc i;generalize ts.length=tl at *;go_wp2_with fail;refine(C2.out _ _ _ z).mono ?_;rintro e w3 ⟨v3,rfl,y,E⟩;obtain⟨ag,ah,rfl⟩:=bZ y;have F3:=hid (⟨F2.out.blk.step E,F2.out.cur.step E,F2.out.lo⟩:Fr w3 fb g base bs A c at_ er way n p (.slice va L vc));have aa:Hid (Below w w w3):=M.out.trans (E.mono M.out.size);clear E z i C2 F2 d2;have d2:w3.cell? ⟨fb,2,none⟩=some (.int .i64 n):=F3.out.blk.cell 2;exact a3n
    ·rw[Aa hl]at hE;have J:byO way n p body=out:=(by rw[hO,hE,Aa rX]);rw[hE,J];have g5:=ig ((out.length:Int)<n);have g6:=ig (out.length<n);clear hl;have H:=hid h;have hL:body.length=body.length:=rfl;clear h8 hE hO J G hw hL h;generalize N:body.length=L at *;clear N d3;go_enter func250,ntmps250;go_upto_region 5 with fail;go_region_held3 (fun wx=>wx.cell? ⟨fb,4,none⟩=some (.slice va L vc)/\wx.cell? ⟨fb,2,none⟩=some (.int .i64 n)) (first|exact⟨d4,d2⟩|exact k0) (first|(go_at_call 299;(with_reducible refine(C1.out _ sT).mono ?_);rintro e w2 ⟨v2,rfl,i,j⟩;obtain⟨ac,ab,rfl⟩:=bZ i;have k0:w2.cell? ⟨fb,4,none⟩=some (.slice va L vc)/\w2.cell? ⟨fb,2,none⟩=some (.int .i64 n):=⟨(H.out.drew.blk.step j).cell 4,(H.out.drew.blk.step j).cell 2⟩));have F2:=hid (⟨H.out.drew.blk.step j,H.out.drew.cur.step j,H.out.lo⟩:Fr w2 fb g base bs A c at_ er way n p (.slice va L vc));have M:Hid (Below w w w2):=(Ae _ _).drew.trans j;clear j k0 d0 d1 d2 d4 C1 H;have d2:w2.cell? ⟨fb,2,none⟩=some (.int .i64 n):=F2.out.blk.cell 2;have z:=Nc i;generalize ts.length=tl at *;go_wp2_with fail;refine(C2.out _ _ _ z).mono ?_;rintro e w3 ⟨v3,rfl,y,E⟩;obtain⟨ag,ah,rfl⟩:=bZ y;have F3:=hid (⟨F2.out.blk.step E,F2.out.cur.step E,F2.out.lo⟩:Fr w3 fb g base bs A c at_ er way n p (.slice va L vc));have aa:Hid (Below w w w3):=M.out.trans (E.mono M.out.size);clear E z i C2 F2 d2;have d2:w3.cell? ⟨fb,2,none⟩=some (.int .i64 n):=F3.out.blk.cell 2;have ak:=hid (kZ y (show base<=_ by have:=M.out.size;omega));clear y;generalize af:out.length=ol at *;have ai:=hid af;clear af;go_wp2_with fail;go_ret2;exact⟨_,rfl,by rw[ai.out];exact ak.out,aa.out⟩
   ·rw[Ab Z]at hE;have J:byO way n p body= []:=(by rw[hO,hE,Ab Z]);rw[hE,J];have g5:(e2 != 0)=true:=(by simpa using Z);clear Z;have H:=hid h;have hL:body.length=body.length:=rfl;clear h8 hE hO J G hw hL h;generalize N:body.length=L at *;clear N d3;go_enter func250,ntmps250;go_upto_region 5 with fail;go_region_held3 (fun wx=>wx.cell? ⟨fb,4,none⟩=some (.slice va L vc)/\wx.cell? ⟨fb,2,none⟩=some (.int .i64 n)) (first|exact⟨d4,d2⟩|exact k0) (first|(go_at_call 299;(with_reducible refine(C1.out _ sT).mono ?_);rintro e w2 ⟨v2,rfl,i,j⟩;obtain⟨ac,ab,rfl⟩:=bZ i;have k0:w2.cell? ⟨fb,4,none⟩=some (.slice va L vc)/\w2.cell? ⟨fb,2,none⟩=some (.int .i64 n):=⟨(H.out.drew.blk.step j).cell 4,(H.out.drew.blk.step j).cell 2⟩));have F2:=hid (⟨H.out.drew.blk.step j,H.out.drew.cur.step j,H.out.lo⟩:Fr w2 fb g base bs A c at_ er way n p (.slice va L vc));have M:Hid (Below w w w2):=(Ae _ _).drew.trans j;clear j k0 d0 d1 d2 d4 C1 H;have d2:w2.cell? ⟨fb,2,none⟩=some (.int .i64 n):=F2.out.blk.cell 2;have z:=Nc i;generalize ts.length=tl at *;go_wp2_with fail;refine(C2.out _ _ _ z).mono ?_;rintro e w3 ⟨v3,rfl,y,E⟩;obtain⟨ag,ah,rfl⟩:=bZ y;have F3:=hid (⟨F2.out.blk.step E,F2.out.cur.step E,F2.out.lo⟩:Fr w3 fb g base bs A c at_ er way n p (.slice va L vc));have aa:Hid (Below w w w3):=M.out.trans (E.mono M.out.size);clear E z i C2 F2 d2;clear y;exact a3n
  ·rw[Ab Y]at hE;have J:byO way n p body= []:=(by rw[hO,hE,Ab Y]);rw[hE,J];have g1:(e1 != 0)=true:=(by simpa using Y);clear Y U Q;have H:=hid h;have hL:body.length=body.length:=rfl;clear h8 hE hO J G hw hL h;generalize N:body.length=L at *;clear N d3;go_enter func250,ntmps250;go_upto_region 5 with fail;go_region_held3 (fun wx=>wx.cell? ⟨fb,4,none⟩=some (.slice va L vc)/\wx.cell? ⟨fb,2,none⟩=some (.int .i64 n)) (first|exact⟨d4,d2⟩|exact k0) (first|(go_at_call 299;(with_reducible refine(C1.out _ sT).mono ?_);rintro e w2 ⟨v2,rfl,i,j⟩;obtain⟨ac,ab,rfl⟩:=bZ i;have k0:w2.cell? ⟨fb,4,none⟩=some (.slice va L vc)/\w2.cell? ⟨fb,2,none⟩=some (.int .i64 n):=⟨(H.out.drew.blk.step j).cell 4,(H.out.drew.blk.step j).cell 2⟩));have F2:=hid (⟨H.out.drew.blk.step j,H.out.drew.cur.step j,H.out.lo⟩:Fr w2 fb g base bs A c at_ er way n p (.slice va L vc));have M:Hid (Below w w w2):=(Ae _ _).drew.trans j;clear j k0 d0 d1 d2 d4 C1 H;clear i;go_wp2_with fail;go_ret2;exact⟨_,rfl,AI _ _ _ _,M.out⟩
theorem V7(most:Int):∀ (ts:List Tk) (out:List Nat),(out.length:Int)<=most->((Fo most out ts).1.length:Int)<=most
 | [],out,h=>h
 |t :: ts,out,h=>by
  rw[Fo];split
  ·rename_i he;refine V7 most ts _ ?_;unfold Hx at he;split at he
   ·split at he
    ·omega
    ·split at he
     ·omega
     ·split
      ·rw[Ag];simp;omega
      ·rw[NG];omega
   ·omega
  ·simp;omega
theorem cJ(ts:List Tk)(n:Nat):(Gg ts n).1.length<=n:=by
 unfold Gg;split
 ·simp
 ·have:=V7 n ts [] rX;omega
theorem WE(bs:List Nat):(CR bs).length<=bs.length:=by
 unfold CR Bj;split
 ·simp
 ·split
  ·simp
  ·simp;omega
theorem O4{bs:List Nat}(h8:∀x∈bs,x<=255):(opO bs).length<=max 32768 bs.length:=by
 have h1:=WE bs;have h2:=cJ (CE (CR bs) (Aj0 bs)).1 (Aj0 bs);have h3:=NO h8;unfold opO byO;split
 ·simp
 ·split
  ·simp
  ·split<;>omega
def OC(bs:List Nat)(w:World)(e:Ending)(w':World):Prop:=
 ∃v1 v2,e= .returned (.tuple #[v1,v2, .int .i64 (opE bs)])/\Below w w w'/\(opE bs=0->hE8 bs=0/\∃fb g A c bv va vc,v1= .pointer (some ⟨fb,0,none⟩)/\v2= .slice va (opO bs).length vc/\Fr w' fb g w bs A c (Aj6 bs) 0 (Di bs) (Aj0 bs) (Ai2 bs) bv/\w'.ownsRow w 5 1 v2 (opO bs).length (dZ .u8 (opO bs)))
theorem bB(w:World)(bs:List Nat)(X:Option Addr)(d:Nat)(L:bs.length<=100000)(hd:bs.length<=d)(hX:X=none->bs.length=0/\d=0)(Q:0<bs.length->∀a,X=some a->a.add 0=a/\a.block<w.heap.size)(h8:∀x∈bs,x<=255)(ht:TabAt w)(hx:Row w w X bs.length 1 (jZ .u8 bs)):
 Calls prog 200 #[.slice X bs.length d] w (OC bs w):=by
 have C1:=hid (Ab7 w X bs.length d bs rfl L hX hx);have C2:Hid (∀wx fb g B e (h:Fr wx fb g w bs B e 0 0 0 0 0 (.slice none 0 0)),Calls prog 248 #[.pointer (some ⟨fb,0,none⟩)] wx fun e' w'=>e'= .returned (.tuple #[])/\Fr w' fb g w bs B e (hA3 bs) (Aj8 bs) (Di bs) (Aj0 bs) (Ai2 bs) (.slice none 0 0)/\Kept (Rest fb g wx) wx w'):=fun wx fb g B e h=>Ak0 wx fb g w bs B e _ L h8 h;have C3:Hid (∀wx fb g B e (hb:Below w w wx) (h:Fr wx fb g w bs B e (hA3 bs) (Aj8 bs) (Di bs) (Aj0 bs) (Ai2 bs) (.slice none 0 0)),Calls prog 249 #[.pointer (some ⟨fb,0,none⟩), .slice X bs.length d] wx fun e' w'=>e'= .returned (.tuple #[])/\∃v,w'.ownsRow w 5 1 v (CR bs).length (dZ .u8 (CR bs))/\Fr w' fb g w bs B e (Aj6 bs) (hE8 bs) (Di bs) (Aj0 bs) (Ai2 bs) v/\Kept (Rest fb g wx) wx w'):=fun wx fb g B e hb h=>Ab8 wx fb g w bs B e _ _ _ X d L hd h8 rfl (ht.below hb ht.lt) ((hx.below hb).mono hb.size) (fun h0 a ha=>(Q h0 a ha).1) (fun h0 a ha=>by have:=(Q h0 a ha).2;have:=h.cur.lo;have:=h.lo;omega) (by have:=ht.lt;have:=h.cur.lo;have:=h.lo;omega) hb.size h;have C4:Hid (∀wx g B e a er (h:Cur wx g w bs B e a er),Calls prog 113 #[.pointer (some ⟨g,0,none⟩)] wx fun e' w'=>e'= .returned (.int .i64 er)/\w'=wx):=fun wx g B e a er h=>Dn wx g w bs B e a er h;have av:=WE bs;have ah:∀x∈CR bs,x<=255:=fun x hx=>h8 x (Wl hx);have C5:Hid (∀wx fb g B e a er va vc (hb:w.heap.size<=wx.heap.size) (ho:wx.ownsRow w 5 1 (.slice va (CR bs).length vc) (CR bs).length (dZ .u8 (CR bs))) (h:Fr wx fb g w bs B e a er (Di bs) (Aj0 bs) (Ai2 bs) (.slice va (CR bs).length vc)),Calls prog 250 #[.pointer (some ⟨fb,0,none⟩)] wx (Ag2 w (Di bs) (Aj0 bs) (Ai2 bs) (CR bs) wx)):=fun wx fb g B e a er va vc hb ho h=>Ag4 wx fb g w bs B e a er _ _ _ va vc _ (NO h8) (NH h8) nj ah hb ho h;unfold Ag2 at C5;have ab:(hE8 bs≠0->opE bs=hE8 bs)/\(hE8 bs=0->opE bs=byE (Di bs) (Aj0 bs) (Ai2 bs) (CR bs)):=⟨fun h=>Ab h,fun h=>Aa qz⟩;have ae:opE bs=0->opO bs=byO (Di bs) (Aj0 bs) (Ai2 bs) (CR bs):=fun h=>Aa qz;have af:=hid ab;have ai:=hid ae;clear ht hx hX Q h8 ah ab ae;unfold OC;go_enter func200,ntmps200;go_wp2_with fail;refine C1.out.mono ?_;rintro e w1 ⟨g,B,dd,rfl,J,M⟩;have Z:=M.size;have ak:=J.blk.lt
 have HF:Hid (Fr (w1.alloc (.cells #[.pointer (some ⟨g,0,none⟩),ij,ij,ij,()] 262)) w1 g w bs B dd 0 0 0 0 0 (.slice none 0 0)):=
  ⟨Blk.made _ _ _,J.step (aZ (Ae _ _)),Z⟩
 have HB:Hid (Below w w (w1.alloc (.cells #[.pointer (some ⟨g,0,none⟩),ij,ij,ij,()] 262))):=pZ Z M;have hg:w.heap.size<=g:=J.lo;go_upto_region 2 with fail;generalize w1.alloc (.cells #[.pointer (some ⟨g,0,none⟩),ij,ij,ij,()] 262)=w2 at *;generalize w1.heap.size=fb at *;clear J M ak C1;go_wp2_with fail;refine(C2.out _ _ _ _ _ HF.out).mono ?_;rintro e w3 ⟨rfl,Y,aj⟩;have E:Hid (Below w w w3):=HB.out.trans (aj.below (fun x hx=>⟨by have:=HB.out.size;omega,nj,nj⟩));have F3:=hid Y;clear Y aj HF HB C2;go_wp2_with fail;refine(C3.out _ _ _ _ _ E.out F3.out).mono ?_;rintro e w4 ⟨rfl,v4,j,N,ag⟩;obtain⟨ac,U,rfl⟩:=bZ j;have z:Hid (Below w w w4):=E.out.trans (ag.below (fun x hx=>⟨by have:=E.out.size;omega,nj,nj⟩));have F4:=hid N;have aa:=hid j;have d0:=N.ptr;clear N ag j F3 E C3;go_wp2_with fail;refine(C4.out _ _ _ _ _ _ F4.out.cur).mono ?_;rintro e w5 ⟨rfl,rfl⟩;by_cases i:hE8 bs=0
 ·have hE:=af.out.2 i;have F5:Hid (Fr w5 fb g w bs B dd (Aj6 bs) 0 (Di bs) (Aj0 bs) (Ai2 bs) (.slice ac (CR bs).length U)):=by rw[<-i];exact F4.out
  rw[i];have ar:=hid i;have HE:=hid hE;clear i hE F4;go_wp2_with fail;refine(C5.out _ _ _ _ _ _ _ _ _ z.out.size aa.out F5.out).mono ?_;rintro e w6 ⟨v6,rfl,y,G⟩;obtain⟨am,aq,rfl⟩:=bZ y;have au:Hid (Below w w w6):=z.out.trans (G.mono z.out.size);have F6:Hid (Fr w6 fb g w bs B dd (Aj6 bs) 0 (Di bs) (Aj0 bs) (Ai2 bs) (.slice ac (CR bs).length U)):=⟨F5.out.blk.step G,F5.out.cur.step G,F5.out.lo⟩;have an:=hid y;clear y G F5 z aa d0 C4 C5;go_wp2_with fail
  go_ret3
  refine⟨_,_,by rw[HE.out];rfl,au.out,fun h0=>⟨ar.out,fb,g,B,dd,_,am,aq,rfl,?_,F6.out,?_⟩⟩
  ·rw[ai.out h0];rfl
  ·rw[ai.out h0];exact an.out
 ·have hE:=af.out.1 i;have g1:(hE8 bs != 0)=true:=by simpa using i
  have HE:=hid hE;have al:=hid i;clear i hE;go_wp2_with fail
  go_ret3
  exact⟨_,_,by rw[HE.out];rfl,z.out,fun h0=>absurd (HE.out.symm.trans h0) al.out⟩
def ND(bs:List Nat)(w:World)(e:Ending)(w':World):Prop:=
 ∃v,e= .returned (.tuple #[v, .int .i64 (opA bs), .int .i64 (opE bs)])/\w'.ownsRow w 5 1 v (opO bs).length (dZ .u8 (opO bs))/\Below w w w'
theorem Sf(w:World)(bs:List Nat)(X:Option Addr)(n d:Nat)(hn:bs.length=n)(M:n<=100000)(hd:n<=d)(hX:X=none->n=0/\d=0)(z:0<bs.length->∀a,X=some a->a.add 0=a/\a.block<w.heap.size)(h8:∀x∈bs,x<=255)(ht:TabAt w)(hx:Row w w X n 1 (jZ .u8 bs)):
 Calls prog 122 #[.slice X n d] w (ND bs w):=by
 subst hn;have C1:=hid (bB w bs X d M hd hX z h8 ht hx);unfold OC at C1;have Q:=O4 h8;unfold ND;by_cases he:opE bs=0
 ·rw[he]at C1 ⊢;have hA:opA bs=Aj6 bs:=Aa (by rw[he];simp);rw[hA];clear ht hx hX z h8 hA he hd;generalize opO bs=out at *;generalize Aj6 bs=a5 at *;go_enter func122,ntmps122;go_wp2_with fail;refine C1.out.mono ?_;rintro e w1 ⟨v1,v2,rfl,i,j⟩;obtain⟨_,fb,g,B,dd,bv,va,vc,rfl,rfl,hf,h⟩:=j ja;have G:=JT h;have y:=Ab5 h;have D1:Hid (∀wx,Below w1 w1 wx->Calls prog 100 #[.slice va out.length vc] wx fun e' w'=>∃v,e'= .returned v/\w'.ownsRow wx 5 1 v out.length (dZ .u8 out)/\Below wx wx w'):=fun wx hb=>IS wx va _ vc _ rfl nj G ((y.below hb).mono hb.size);have D2:Hid (∀wx,Below w1 w1 wx->Calls prog 195 #[.pointer (some ⟨g,0,none⟩)] wx fun e' w'=>e'= .returned (.int .i64 (a5:Nat))/\w'=wx):=fun wx hb=>Ig wx g w bs B dd _ 0 (hf.cur.step hb);have d0:w1.cell? ⟨fb,0,none⟩=some (.pointer (some ⟨g,0,none⟩)):=hf.ptr;have KP:Hid (∀wx,Below w1 w1 wx->wx.cell? ⟨fb,0,none⟩=some (.pointer (some ⟨g,0,none⟩))):=fun wx hb=>(hb.cell (p:=⟨fb,0,none⟩) hf.blk.lt).trans hf.ptr;have E:=hid i;clear i hf h G y C1 j;generalize L:out.length=ol at *;have U:=hid L;clear L;go_upto_region 4 with fail;have b0:Below w1 w1 w1.drew:=(Ae _ _).drew;go_region_held3 (fun wx=>wx.cell? ⟨fb,0,none⟩=some (.pointer (some ⟨g,0,none⟩))) (first|exact d0|exact KP.out _ im) (first|(go_at_call 100;(with_reducible refine(D1.out _ im).mono ?_);rintro e' w' ⟨v,rfl,h,hb⟩;have bN:Below w1 w1 w':=xZ im (Below.size im) im)|(go_at_call 195;(with_reducible refine(D2.out _ im).mono ?_);rintro e' w' ⟨rfl,rfl⟩));have hz:=E.out.size;have N:Hid (Below w w w'):=E.out.trans (bN.mono hz);have J:Hid (w'.ownsRow w 5 1 v ol (dZ .u8 out)):=kZ h (show w.heap.size<=w1.heap.size from hz);obtain⟨Z,Y,rfl⟩:=bZ J.out;clear h hb bN b0 D1 D2 KP E d0;go_wp2_with fail
  go_ret3
  exact⟨_,rfl,by rw[U.out];exact J.out,N.out⟩
 ·have hO:opO bs= []:=Ab he;have hA:opA bs=0:=Ab he;rw[hO,hA];have g1:(opE bs != 0)=true:=by simpa using he
  generalize opE bs=er at *;clear ht hx hX z h8 hO hA Q hd he;go_enter func122,ntmps122;go_wp2_with fail;refine C1.out.mono ?_;rintro e w1 ⟨v1,v2,rfl,i,j⟩;clear j C1;go_wp2_with fail
  go_ret3
  exact⟨_,rfl,AI _ _ _ _,i⟩
end
variable{w w1 w2:World}{g:Nat}
open Go.RowKit
theorem G5{fn:Func}{t u v x y:Tmp}(h:fn.results=#[.tmp t, .tmp u, .tmp v, .tmp x, .tmp y])(i:Array Value)(P:Program)(w:World):
 (results fn i).run P w= .ok (.tuple #[i.getD t undef,i.getD u undef,i.getD v undef,i.getD x undef,i.getD y undef]) w:=by
 simp[results,h]
theorem Below.drewN'{B:Nat}{a:World}(h:Below B a w)(n:Nat):Below B a (w.drewN n):=below_drewN h n
theorem GZ(h:Below w w w1)(hg:w.heap.size<=g)(k:Kept (Bh g w1) w1 w2):Below w w w2:=
 h.trans (k.below fun x hx=>⟨Ek hx h.size,nj⟩)
theorem OR(h:Below w w w1)(hg:w.heap.size<=g)(k:Kept (fun x=>x≠g) w1 w2):Below w w w2:=
 h.trans (k.below fun x hx=>by show x≠g;omega)
theorem aD{ls:List Nat}{m:Nat}(hn:ls.length=m+4):decide (ls.take m++Bv (Bg (ls.take m))=ls)=decide (ls.drop m=Bv (Bg (ls.take m))):=by
 have e:ls=ls.take m++ls.drop m:=(ER m ls).symm;by_cases h:ls.drop m=Bv (Bg (ls.take m))
 ·rw[Bd h];refine Bd ?_;rw[<-h];exact e.symm
 ·rw[Be h];refine Be fun h2=>h ?_;have h3:=Aw (List.drop m) h2;rw[List.drop_append_of_le_length oj,El oj,FY]at h3;exact h3.symm
theorem ZT(w:World)(A:Option Addr)(n c:Nat)(ls:List Nat)(hn:ls.length=n)(au:n<=100000)(hc:n<=c)(h8:∀x∈ls,x<=255)(ha:Row w w A n 1 (jZ .u8 ls)):
 Calls prog 146 #[.slice A n c] w (GK ls w):=by
 unfold GK;by_cases h4:n<4
 ·have hE:BI ls=1:=by unfold BI;rw[Ab nj]
  have hO:AJ ls= []:=by unfold AJ;rw[hE];rfl
  rw[hE,hO];have g1:=ic ((n:Int)<4)
  have ar:=ic (n<4)
  clear ha h8 hn hE hO;go_enter func146,ntmps146;go_wp2_with fail;go_ret2;exact⟨_,rfl,AI _ _ _ _,Ae _ _⟩
 ·obtain⟨m,rfl⟩:∃m,n=m+4:=⟨n-4,nj⟩;obtain⟨ab,ao,rfl,af,an⟩:=ha nj;obtain⟨j0,ai,al,ak,aq⟩:=info_parts Dh;have U:ls.length-4=m:=by omega
  have s1:IntKind.i64.wrap ((((m+4:Nat)):Int)-4)=(m:Int):=pj
  have g1:=ig ((((m+4:Nat)):Int)<4)
  have ar:=ig (m+4<4)
  have hb:=Fj ha (show m<=m+4 by omega);have z:(ls.take m).length=m:=oj
  have Q:∀x∈ls.take m,x<=255:=fun x hx=>h8 x (BX hx);have k2:=fun wx=>EG (P:=prog) (t:=28) (s:=1) underlying28 (fun _=>by kernel_rfl) (some ⟨ab,ao,none⟩) (m+4) c .i64 (m:Int) m rfl nj (fun a ha=>by injection ha with ha;subst ha;exact Gj ab ao 0) wx;have D1:=hid (Li w (some ⟨ab,ao,none⟩) m c (ls.take m) z nj (fun h=>by cases h) Q hb)
  have ae:∀x∈ls.take m++Bv (Bg (ls.take m)),x<=255:=fun x hx=>by
   rcases BJ.1 hx with hx|hx
   ·exact Q x hx
   ·have:=Mx _ x hx;omega
  have J:(ls.take m++Bv (Bg (ls.take m))).length=m+4:=by rw[Ag,z];rfl
  have D2:Hid (∀wx A2 c2,Below w w wx->wx.ownsRow w 5 1 (.slice A2 (m+4) c2) (m+4) (dZ .u8 (ls.take m++Bv (Bg (ls.take m))))->Calls prog 42 #[.slice A2 (m+4) c2, .slice (some ⟨ab,ao,none⟩) (m+4) c] wx fun e w'=>e= .returned (.bool (decide (ls.drop m=Bv (Bg (ls.take m)))))/\wx=w'):=fun wx A2 c2 hbx hox=>by rw[<-aD hn];have hr:Row wx wx A2 (m+4) 1 (jZ .u8 (ls.take m++Bv (Bg (ls.take m)))):=(by have h:=hox;rw[<-J]at h;have:=Ab5 h;rw[J]at this;exact this);exact RK wx A2 _ (m+4) (m+4) c2 c _ ls J hn (fun e=>((Et hox).1 e).1) (fun e=>by cases e) ae h8 hr ((ha.below hbx).mono hbx.size)
  have Z:Hid (∀wx,Below w w wx->Src wx (some ⟨ab,ao,none⟩) m c 1 (dZ .u8 (ls.take m))):=fun wx h=>Jz ((hb.below h).mono h.size) z (fun h=>by cases h);unfold GN at D1;have hE:BI ls=if ls.drop m=Bv (Bg (ls.take m))then 0 else 5:=by unfold BI;rw[Aa nj,U]
  have hO:AJ ls=if BI ls=0 then ls.take m else []:=by unfold AJ;rw[U]
  rw[z]at D1;generalize ah:ls.take m++Bv (Bg (ls.take m))=T at *;have am:=hid z;clear ha an af hb h8 Q h4 U hn ae J ah z;by_cases E:ls.drop m=Bv (Bg (ls.take m))
  ·rw[Ab E]at hE;rw[hE,Ab rfl]at hO;rw[hE,hO,am.out];rw[Bd E]at D2;clear E hE hO;generalize ls.take m=M at *;go_enter func146,ntmps146;go_wp2_with fail;refine D1.out.mono ?_;rintro e w1 ⟨v1,rfl,j,i⟩;obtain⟨A1,c1,rfl⟩:=bZ j;have E2:=hid (D2.out w1 A1 c1 i j);have L:=hid i;clear D1 D2 j i;go_wp2_with fail;refine E2.out.mono ?_;rintro e w2 ⟨rfl,rfl⟩;have N:Hid (Below w w (w1.alloc (.cells #[] 5))):=aZ L.out;have HO:=hid (OO (w:=w1) (base:=w.heap.size) L.out.size);have HS:=hid (Z.out _ N.out);have aa:=N.out.size;clear E2 Z;go_wp2_with(at_builtin;refine iZ rfl (.tmp 16) (.tmp 21) 28 rfl w 5 j0 _ 1 1 underlying28 ai al ak aq rfl ip _ _ _ nm HO.out _ _ _ _ nm HS.out (Ce _ _) sS nj aa ?_;intro v4 w4 G ac Y;have ag:Hid (Below w w w4):=N.out.grown ac aa (fun y hy=>(Aj HO.out y hy).1);have aj:Hid (w4.ownsRow w 5 1 v4 m (dZ .u8 M)):=(by have h:=G;rw[Ca]at h;exact h);clear G ac Y);go_ret2;exact⟨_,rfl,aj.out,ag.out⟩
  ·rw[Aa E]at hE;rw[hE,Aa nj]at hO;rw[hE,hO];rw[Be E]at D2;clear E hE hO;generalize ls.take m=M at *;go_enter func146,ntmps146;go_wp2_with fail;refine D1.out.mono ?_;rintro e w1 ⟨v1,rfl,j,i⟩;obtain⟨A1,c1,rfl⟩:=bZ j;have E2:=hid (D2.out w1 A1 c1 i j);have L:=hid i;clear D1 D2 j i;go_wp2_with fail;refine E2.out.mono ?_;rintro e w2 ⟨rfl,rfl⟩;go_wp2_with fail;go_ret2;exact⟨_,rfl,AI _ _ _ _,L.out⟩
def hdR(er:Int)(x:Nat):Nat:=if er≠0 then 0 else x
def RI(bs:List Nat)(w:World)(e:Ending)(w':World):Prop:=
 e= .returned (.tuple #[.int .i64 (hdR (hE8 bs) (Di bs):Nat), .int .i64 (hdR (hE8 bs) (Aj0 bs):Nat), .int .i64 (hdR (hE8 bs) (Ai2 bs):Nat), .int .i64 (hdR (hE8 bs) (hA3 bs):Nat), .int .i64 (hE8 bs)])/\Below w w w'
theorem a0f{p:Prop}(h:p:=by
  have d1:=F6.out.cells.2.1;go_wp2_with fail;refine(C6.out _ F6.out).mono ?_;rintro e w7 ⟨v7,rfl,aa,Q,N⟩;obtain⟨A7,c7,rfl⟩:=bZ aa;have F7:=hid Q;have B7:=hid (GZ B6.out E N);clear Q N aa F6 B6 C6 d1;go_wp2_with fail;refine(C7.out _ F7.out).mono ?_;rintro e w8 ⟨v8,rfl,L,Z,Y⟩;obtain⟨A8,c8,rfl⟩:=bZ L;have F8:=hid Z;have B8:=hid (GZ B7.out E Y);clear Z Y L F7 B7 C7;have d1:=F8.out.cells.2.1;have d2:=F8.out.cells.2.2;by_cases i:e7=0
  ·have g7:(e7 != 0)=false:=sE;have ks:=KS.out i;have J:=hid (C8.out i w8 B8.out);have z:=hid (E8.out.1 i);clear KS C8 E8 i;go_wp2_with fail;refine J.out.mono ?_;rintro e w9 ⟨v9,rfl,U,M⟩;obtain⟨A9,c9,rfl⟩:=bZ U;have B9:=hid (cZ M B8.out);clear U M J F8 B8;by_cases j:ce=0
   ·have g8:(ce != 0)=false:=(by simp[j]);have y:=hid j;clear j;go_wp2_with fail
    (try simp only[Exit.inBlock,Exit.then])
    refine Bx (G5 rfl _ _ _) rfl ?_;exact⟨sA,B9.out⟩
   ·have g8:(ce != 0)=true:=sL;have y:=hid j;clear j;go_wp2_with fail
    (try simp only[Exit.inBlock,Exit.then])
    refine Bx (G5 rfl _ _ _) rfl ?_;exact⟨sA,B9.out⟩
  ·have g7:(e7 != 0)=true:=sK;have z:=hid (E8.out.2 i);have y:=hid i;clear KS C8 E8 i;go_wp2_with fail;go_quiet (fail);go_wp2_with fail
   (try simp only[Exit.inBlock,Exit.then])
   refine Bx (G5 rfl _ _ _) rfl ?_;exact⟨sA,Below.drewN' B8.out _⟩):p:=h
theorem Ak5(w:World)(X:Option Addr)(nX dX:Nat)(bs:List Nat)(hn:bs.length=nX)(ab:nX<=100000)(hd:nX<=dX)(hX:X=none->nX=0/\dX=0)(ax:0<nX->∀a,X=some a->a.add 0=a)(h8:∀x∈bs,x<=255)(ha:Row w w X nX 1 (jZ .u8 bs)):
 Calls prog 214 #[.slice X nX dX] w (RI bs w):=by
 subst hn;have C0:=hid (XR w X bs.length dX bs rfl ab hX ha);have C1:Hid (∀wx g B d,RCur wx g w bs B d 0 0->Calls prog 150 #[.pointer (some ⟨g,0,none⟩)] wx fun e w'=>e= .returned (.int .u8 (Di bs:Nat))/\RCur w' g w bs B d (hA1 bs) (hE1 bs)/\Kept (Bh g wx) wx w'):=fun wx g B d hc=>iI wx g _ bs B d 0 0 ab hc;have C2:Hid (1<Di bs->∀wx g B d,RCur wx g w bs B d (hA1 bs) (hE1 bs)->Calls prog 151 #[.pointer (some ⟨g,0,none⟩), .int .i64 2] wx fun e w'=>e= .returned (.tuple #[])/\RCur w' g w bs B d (hA1 bs) (Ai6 bs)/\Kept (fun x=>x≠g) wx w'):=fun h1 wx g B d hc=>by rw[show Ai6 bs=ES (hE1 bs) 2 from Ab h1];exact SH wx g _ bs B d _ _ 2 hc
 have al:Hid (¬1<Di bs->Ai6 bs=hE1 bs):=fun h1=>Aa h1;have C3:Hid (∀wx g B d,RCur wx g w bs B d (hA1 bs) (Ai6 bs)->Calls prog 149 #[.pointer (some ⟨g,0,none⟩), .int .i64 32768] wx fun e w'=>e= .returned (.int .i64 (Aj0 bs:Nat))/\RCur w' g w bs B d (Ai4 bs) (Ai8 bs)/\Kept (Bh g wx) wx w'):=fun wx g B d hc=>WH wx g _ bs B d _ _ 32768 ab h8 nj hc;have C4:Hid (∀wx g B d,RCur wx g w bs B d (Ai4 bs) (Ai8 bs)->Calls prog 149 #[.pointer (some ⟨g,0,none⟩), .int .i64 32768] wx fun e w'=>e= .returned (.int .i64 (Ai2 bs:Nat))/\RCur w' g w bs B d (hA3 bs) (Aj4 bs)/\Kept (Bh g wx) wx w'):=fun wx g B d hc=>WH wx g _ bs B d _ _ 32768 ab h8 nj hc;have C5:Hid (1032*Ai2 bs+64<Aj0 bs->∀wx g B d,RCur wx g w bs B d (hA3 bs) (Aj4 bs)->Calls prog 151 #[.pointer (some ⟨g,0,none⟩), .int .i64 6] wx fun e w'=>e= .returned (.tuple #[])/\RCur w' g w bs B d (hA3 bs) (Aj8 bs)/\Kept (fun x=>x≠g) wx w'):=fun h1 wx g B d hc=>by rw[show Aj8 bs=ES (Aj4 bs) 6 from Ab h1];exact SH wx g _ bs B d _ _ 6 hc
 have ac:Hid (¬1032*Ai2 bs+64<Aj0 bs->Aj8 bs=Aj4 bs):=fun h1=>Aa h1;have a6:=WP h8;have a7:=NO h8;have a0:=NH h8;have an:=U1 h8;have C6:Hid (∀wx g B d,RCur wx g w bs B d (hA3 bs) (Aj8 bs)->Calls prog 153 #[.pointer (some ⟨g,0,none⟩), .int .i64 (Ai2 bs:Nat)] wx fun e w'=>∃v,e= .returned v/\w'.ownsRow wx 5 1 v (CR bs).length (dZ .u8 (CR bs))/\RCur w' g w bs B d (Aj2 bs) (hE6 bs)/\Kept (Bh g wx) wx w'):=fun wx g B d hc=>OG wx g _ bs B d _ _ (Ai2 bs) ab nj hc;have C7:Hid (∀wx g B d,RCur wx g w bs B d (Aj2 bs) (hE6 bs)->Calls prog 153 #[.pointer (some ⟨g,0,none⟩), .int .i64 4] wx fun e w'=>∃v,e= .returned v/\w'.ownsRow wx 5 1 v (Bj bs (Aj2 bs) (hE6 bs) 4).length (dZ .u8 (Bj bs (Aj2 bs) (hE6 bs) 4))/\RCur w' g w bs B d (Aj6 bs) (hE7 bs)/\Kept (Bh g wx) wx w'):=fun wx g B d hc=>OG wx g _ bs B d _ _ 4 ab nj hc
 have av:hE7 bs=0->0<bs.length:=fun h=>by
  unfold hE7 at h
  have h6:hE6 bs=0/\4<=bs.length-Aj2 bs:=by
   unfold Bq at h;split at h
   ·contradiction
   ·rename_i h0;split at h
    ·cases h
    ·exact⟨by simpa using h0,nj⟩
  omega
 have KS:Hid (hE7 bs=0->∀wx,(Instr.slice 28 (.slice X bs.length dX) none (some (.int .i64 (Aj6 bs:Nat))) none).run prog wx= .ok (.slice X (Aj6 bs) dX) wx):=fun h wx=>EG (P:=prog) (t:=28) (s:=1) underlying28 (fun _=>by kernel_rfl) X bs.length dX .i64 ((Aj6 bs:Nat):Int) (Aj6 bs) rfl nj (ax (av h)) wx;have C8:Hid (hE7 bs=0->∀wx,Below w w wx->Calls prog 146 #[.slice X (Aj6 bs) dX] wx (GK (bs.take (Aj6 bs)) wx)):=fun h wx hb=>ZT wx X (Aj6 bs) dX (bs.take (Aj6 bs)) oj nj nj (fun x hx=>h8 x (BX hx)) (Fj ((ha.below hb).mono hb.size) an);have E8:Hid ((hE7 bs=0->hE8 bs=BI (bs.take (Aj6 bs)))/\(hE7 bs≠0->hE8 bs=hE7 bs)):=⟨fun h=>Aa qz,fun h=>Ab h⟩;unfold RI;unfold GK at C8;generalize Di bs=wy at *;generalize Aj0 bs=n at *;generalize Ai2 bs=p at *;generalize hA1 bs=a1 at *;generalize Ai4 bs=a2 at *;generalize hA3 bs=a3 at *;generalize Aj2 bs=a4 at *;generalize hE1 bs=e1 at *;generalize Ai6 bs=e2 at *;generalize Ai8 bs=e3 at *;generalize Aj4 bs=e4 at *;generalize Aj8 bs=e5 at *;generalize hE6 bs=e6 at *;generalize hE7 bs=e7 at *;generalize Bj bs a4 e6 4=tO at *;generalize CR bs=bO at *;generalize BI (bs.take (Aj6 bs))=ce at *;generalize AJ (bs.take (Aj6 bs))=cO at *;generalize hE8 bs=e8 at *;generalize Aj6 bs=a5 at *;have s1:IntKind.i64.wrap (wy:Int)=(wy:Int):=pi
 have s2:IntKind.i64.wrap (1032*(p:Int))=1032*(p:Int):=pi
 have s3:IntKind.i64.wrap (1032*(p:Int)+64)=1032*(p:Int)+64:=pi
 clear h8 ha av hX ax;go_enter func214,ntmps214;go_wp2_with fail;refine C0.out.mono ?_;rintro e w1 ⟨g,B,d,rfl,am,aw⟩;have E:w.heap.size<=g:=am.lo;have F1:=hid am;have B1:=hid aw
 replace C1:=hid (fun wx=>C1.out wx g B d)
 replace C2:=hid (fun h wx=>C2.out h wx g B d)
 replace C3:=hid (fun wx=>C3.out wx g B d)
 replace C4:=hid (fun wx=>C4.out wx g B d)
 replace C5:=hid (fun h wx=>C5.out h wx g B d)
 replace C6:=hid (fun wx=>C6.out wx g B d)
 replace C7:=hid (fun wx=>C7.out wx g B d)
 clear am aw C0;go_wp2_with fail;refine(C1.out _ F1.out).mono ?_;rintro e w2 ⟨rfl,aq,ar⟩;have F2:=hid aq;have B2:=hid (GZ B1.out E ar);clear aq ar F1 B1 C1;by_cases ak:1<wy
 ·have g1:=ic ((1:Int)<wy)
  have az:=ic (1<wy)
  go_wp2_with fail;refine(C2.out ak _ F2.out).mono ?_;rintro e w3 ⟨rfl,ay,au⟩;have F3:=hid ay;have B3:=hid (OR B2.out E au);clear ay au F2 B2 C2 al ak g1 az;go_wp2_with fail;refine(C3.out _ F3.out).mono ?_;rintro e w4 ⟨rfl,ae,ai⟩;have F4:=hid ae;have B4:=hid (GZ B3.out E ai);clear ae ai F3 B3 C3;go_wp2_with fail;refine(C4.out _ F4.out).mono ?_;rintro e w5 ⟨rfl,af,aj⟩;have F5:=hid af;have B5:=hid (GZ B4.out E aj);clear af aj F4 B4 C4;by_cases G:1032*p+64<n
  ·have g4:=ic (1032*(p:Int)+64<(n:Int));have g5:=ic (1032*p+64<n);go_wp2_with fail;refine(C5.out G _ F5.out).mono ?_;rintro e w6 ⟨rfl,ah,ag⟩;have F6:=hid ah;have B6:=hid (OR B5.out E ag);clear ah ag F5 B5 C5 ac G g4 g5;exact a0f
  ·have g4:=ig (1032*(p:Int)+64<(n:Int));have g5:=ig (1032*p+64<n);have F6:Hid (RCur w5 g w bs B d a3 e5):=(by rw[ac.out G];exact F5.out);have B6:=B5;obtain⟨w6,rfl⟩:=ii w5;clear F5 B5 C5 ac G;exact a0f
 ·have g1:=ig ((1:Int)<wy)
  have az:=ig (1<wy)
  have F3:Hid (RCur w2 g w bs B d a1 e2):=by rw[al.out ak];exact F2.out
  have B3:=B2;obtain⟨w3,rfl⟩:=ii w2;clear F2 B2 C2 al ak;go_wp2_with fail;refine(C3.out _ F3.out).mono ?_;rintro e w4 ⟨rfl,ae,ai⟩;have F4:=hid ae;have B4:=hid (GZ B3.out E ai);clear ae ai F3 B3 C3;go_wp2_with fail;refine(C4.out _ F4.out).mono ?_;rintro e w5 ⟨rfl,af,aj⟩;have F5:=hid af;have B5:=hid (GZ B4.out E aj);clear af aj F4 B4 C4;by_cases G:1032*p+64<n
  ·have g4:=ic (1032*(p:Int)+64<(n:Int));have g5:=ic (1032*p+64<n);go_wp2_with fail;refine(C5.out G _ F5.out).mono ?_;rintro e w6 ⟨rfl,ah,ag⟩;have F6:=hid ah;have B6:=hid (OR B5.out E ag);clear ah ag F5 B5 C5 ac G g4 g5;exact a0f
  ·have g4:=ig (1032*(p:Int)+64<(n:Int));have g5:=ig (1032*p+64<n);have F6:Hid (RCur w5 g w bs B d a3 e5):=(by rw[ac.out G];exact F5.out);have B6:=B5;obtain⟨w6,rfl⟩:=ii w5;clear F5 B5 C5 ac G;exact a0f
end Go.Proofs.YtfgdoknipbpfhaaGreatDoor

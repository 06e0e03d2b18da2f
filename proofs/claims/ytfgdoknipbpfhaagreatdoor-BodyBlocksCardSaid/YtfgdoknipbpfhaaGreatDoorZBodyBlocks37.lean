/- Plain: a frame, as i -/
import Derived.Test.YtfgdoknipbpfhaaGreatDoorZBodyBlocks10
import Derived.Test.YtfgdoknipbpfhaaGreatDoorZBodyBlocks36
import Derived.Test.YtfgdoknipbpfhaaGreatDoorZBodyBlocks14
namespace Go.Proofs.YtfgdoknipbpfhaaGreatDoor
open Go.Proofs.Tryz
open Go.Lib (hid)
set_option maxHeartbeats 1000000
set_option maxRecDepth 100000
variable{fb g i n:Nat}{u:Value}{j:Int}{w w1 w2:World}
namespace Block
open Nums Crc
open Huff (Cg)
def Dr(bs:List Nat):Nat:=Gl bs 0 0
def hA1(bs:List Nat):Nat:=takeA bs 0 0 1
def hE1(bs:List Nat):Int:=BK bs 0 0 1
def hE2(bs:List Nat):Int:=if 1<Dr bs then FX (hE1 bs) 2 else hE1 bs
def hN(bs:List Nat):Nat:=AY 32768 bs (hA1 bs) (hE2 bs)
def hA2(bs:List Nat):Nat:=zZ 32768 bs (hA1 bs) (hE2 bs)
def hE3(bs:List Nat):Int:=AJ 32768 bs (hA1 bs) (hE2 bs)
def hP(bs:List Nat):Nat:=AY 32768 bs (hA2 bs) (hE3 bs)
def hA3(bs:List Nat):Nat:=zZ 32768 bs (hA2 bs) (hE3 bs)
def hE4(bs:List Nat):Int:=AJ 32768 bs (hA2 bs) (hE3 bs)
def hE5(bs:List Nat):Int:=if 1032*hP bs+64<hN bs then FX (hE4 bs) 6 else hE4 bs
def CI(bs:List Nat):List Nat:=Bu bs (hA3 bs) (hE5 bs) (hP bs)
def hA4(bs:List Nat):Nat:=takeA bs (hA3 bs) (hE5 bs) (hP bs)
def hE6(bs:List Nat):Int:=BK bs (hA3 bs) (hE5 bs) (hP bs)
def hA5(bs:List Nat):Nat:=takeA bs (hA4 bs) (hE6 bs) 4
def hE7(bs:List Nat):Int:=BK bs (hA4 bs) (hE6 bs) 4
def hE8(bs:List Nat):Int:=if hE7 bs≠0 then hE7 bs else Cw (bs.take (hA5 bs))
def byE(way n p:Nat)(body:List Nat):Int:=
 if way=0 then if n≠p then 2 else 0
 else if(Cg body n).2≠0 then(Cg body n).2
 else if(Lz.Fm (Cg body n).1 n).2≠0 then(Lz.Fm (Cg body n).1 n).2
 else if(Lz.Fm (Cg body n).1 n).1.length<n then 2 else 0
def byO(way n p:Nat)(body:List Nat):List Nat:=if byE way n p body≠0 then []else if way=0 then body else(Lz.Fm (Cg body n).1 n).1
def opE(bs:List Nat):Int:=if hE8 bs≠0 then hE8 bs else byE (Dr bs) (hN bs) (hP bs) (CI bs)
def opO(bs:List Nat):List Nat:=if opE bs≠0 then []else byO (Dr bs) (hN bs) (hP bs) (CI bs)
def opA(bs:List Nat):Nat:=if opE bs≠0 then 0 else hA5 bs
theorem V5{bs:List Nat}(h8:∀x∈bs,x<=255)(at_:Nat)(er:Int):Gl bs at_ er<=255:=by
 unfold Gl;split
 ·omega
 ·by_cases h:at_<bs.length
  ·rw[Am,Az h];exact h8 _ (Fe h)
  ·rw[Am,Ff mw];show 0<=255;omega
theorem QX{bs:List Nat}(h8:∀x∈bs,x<=255)(most at_:Nat)(er:Int):AY most bs at_ er<=most:=by
 unfold AY;split
 ·omega
 ·exact(G8 most (bs.drop at_) (fun x hx=>h8 x (BY hx))).1
theorem intA_le{bs:List Nat}(h8:∀x∈bs,x<=255)(most at_:Nat)(er:Int)(h:at_<=bs.length):zZ most bs at_ er<=bs.length:=by
 unfold zZ;split
 ·exact h
 ·have:=(G8 most (bs.drop at_) (fun x hx=>h8 x (BY hx))).2.1;rw[AO]at this;omega
theorem XK(bs:List Nat):hA1 bs<=bs.length:=L5 bs 0 0 1 (Cr _)
section
variable {bs:List Nat} (h8:∀x∈bs,x<=255)
include h8
theorem Xr:hA2 bs<=bs.length:=intA_le h8 _ _ _ (XK bs)
theorem W7:hA3 bs<=bs.length:=intA_le h8 _ _ _ (Xr h8)
theorem WJ:hA4 bs<=bs.length:=L5 bs _ _ _ (W7 h8)
theorem Wo:hA5 bs<=bs.length:=L5 bs _ _ _ (WJ h8)
theorem PU:hN bs<=32768:=QX h8 _ _ _
theorem PJ:hP bs<=32768:=QX h8 _ _ _
theorem VL:Dr bs<=255:=V5 h8 _ _
end
theorem Qv{bs:List Nat}{at_:Nat}{er:Int}{x:Nat}(h:x∈Bu bs at_ er n):x∈bs:=by
 unfold Bu at h;split at h
 ·cases h
 ·split at h
  ·cases h
  ·exact BY (CV h)
end Block
namespace Block
open Go.RowKit Mem Own Canon
open Nums Crc
structure Fr (w:World) (fb g base:Nat) (bs:List Nat) (A:Option Addr) (c at_:Nat) (er:Int) (way n p:Nat) (bv:Value):Prop where
 blk:Blk w fb 262 #[.pointer (some ⟨g,0,none⟩),way,n,p,bv]
 cur:Cur w g base bs A c at_ er
 lo:base<=fb
section
variable {w w':World} {fb g base:Nat} {bs:List Nat} {A:Option Addr} {c at_:Nat} {er:Int} {way n p:Nat} {bv:Value}
theorem Fr.ne(h:Fr w fb g base bs A c at_ er way n p bv):fb≠g:=Blk.apart h.blk h.cur.blk ip
theorem Fr.drew(h:Fr w fb g base bs A c at_ er way n p bv):Fr w.drew fb g base bs A c at_ er way n p bv:=⟨h.blk,h.cur.drew,h.lo⟩
theorem Fr.drewN(h:Fr w fb g base bs A c at_ er way n p bv)(q:Nat):Fr (w.drewN q) fb g base bs A c at_ er way n p bv:=⟨h.blk,h.cur.drewN q,h.lo⟩
theorem Fr.ptr(h:Fr w fb g base bs A c at_ er way n p bv):w.cell? ⟨fb,0,none⟩=some (.pointer (some ⟨g,0,none⟩)):=h.blk.cell 0
theorem cur_far(h:Cur w g base bs A c at_ er){cs:Array Value}(hb:Blk w fb 262 cs):Cur (w.setCell ⟨fb,i,none⟩ u) g base bs A c at_ er:=
 ⟨h.blk.far (fun e=>Blk.apart hb h.blk ip e.symm) _,BS h.own (gZ h.own hb ip) _,h.le,h.lo⟩
theorem Fr.on(h:Fr w fb g base bs A c at_ er way n p bv)(hc:Cur w' g base bs A c i j)(hk:Kept (By g w) w w'):Fr w' fb g base bs A c i j way n p bv:=
 ⟨(hk.block fb ⟨h.blk.lt,h.ne⟩).trans h.blk,hc,h.lo⟩
theorem Fr.fail(h:Fr w fb g base bs A c at_ er way n p bv)(hc:Cur w' g base bs A c i j)(hk:Kept (fun x=>x≠g) w w'):Fr w' fb g base bs A c i j way n p bv:=
 ⟨(hk.block fb h.ne).trans h.blk,hc,h.lo⟩
theorem Fr.setWay(h:Fr w fb g base bs A c at_ er way n p bv)(x:Nat):Fr (w.setCell ⟨fb,1,none⟩ (.int .i64 x)) fb g base bs A c at_ er x n p bv:=⟨h.blk.set 1 _,cur_far h.cur h.blk,h.lo⟩
theorem Fr.setN(h:Fr w fb g base bs A c at_ er way n p bv)(x:Nat):Fr (w.setCell ⟨fb,2,none⟩ (.int .i64 x)) fb g base bs A c at_ er way x p bv:=⟨h.blk.set 2 _,cur_far h.cur h.blk,h.lo⟩
theorem Fr.setP(h:Fr w fb g base bs A c at_ er way n p bv)(x:Nat):Fr (w.setCell ⟨fb,3,none⟩ (.int .i64 x)) fb g base bs A c at_ er way n x bv:=⟨h.blk.set 3 _,cur_far h.cur h.blk,h.lo⟩
theorem Fr.setB(h:Fr w fb g base bs A c at_ er way n p bv)(x:Value):Fr (w.setCell ⟨fb,4,none⟩ x) fb g base bs A c at_ er way n p x:=⟨h.blk.set 4 _,cur_far h.cur h.blk,h.lo⟩
end
def Rest(fb g:Nat)(w:World)(x:Nat):Prop:=x<w.heap.size/\x≠g/\x≠fb
theorem I9(h:Kept (Rest fb g w) w w1)(k:Kept (By g w1) w1 w2):Kept (Rest fb g w) w w2:=
 h.trans ⟨k.os,k.tape,k.output,k.size,fun x hx=>k.block x ⟨by have:=hx.1;have:=h.size;omega,hx.2.1⟩⟩
theorem MW(h:Kept (Rest fb g w) w w1)(k:Kept (fun x=>x≠g) w1 w2):Kept (Rest fb g w) w w2:=
 h.trans ⟨k.os,k.tape,k.output,k.size,fun x hx=>k.block x hx.2.1⟩
theorem J0(h:Kept (Rest fb g w) w w1):Kept (Rest fb g w) w (w1.setCell ⟨fb,i,none⟩ u):=h.set (fun h=>h.2.2 rfl) _
theorem kX(w:World)(fb g base:Nat)(bs:List Nat)(A:Option Addr)(c:Nat)(bv:Value)(N:bs.length<=100000)(h8:∀x∈bs,x<=255)(h:Fr w fb g base bs A c 0 0 0 0 0 bv):
 Calls prog 248 #[.pointer (some ⟨fb,0,none⟩)] w fun e w'=>e= .returned (.tuple #[])/\Fr w' fb g base bs A c (hA3 bs) (hE5 bs) (Dr bs) (hN bs) (hP bs) bv/\Kept (Rest fb g w) w w':=by
 have C1:Hid (∀wx,Cur wx g base bs A c 0 0->Calls prog 219 #[.pointer (some ⟨g,0,none⟩)] wx fun e w'=>e= .returned (.int .u8 (Dr bs:Nat))/\Cur w' g base bs A c (hA1 bs) (hE1 bs)/\Kept (By g wx) wx w'):=fun wx hc=>Sm wx g base bs A c 0 0 N hc;have C2:Hid (1<Dr bs->∀wx,Cur wx g base bs A c (hA1 bs) (hE1 bs)->Calls prog 186 #[.pointer (some ⟨g,0,none⟩), .int .i64 2] wx fun e w'=>e= .returned (.tuple #[])/\Cur w' g base bs A c (hA1 bs) (hE2 bs)/\Kept (fun x=>x≠g) wx w'):=fun h1 wx hc=>by rw[show hE2 bs=FX (hE1 bs) 2 from Ab h1];exact GM wx g base bs A c _ _ 2 hc
 have U:Hid (¬1<Dr bs->hE2 bs=hE1 bs):=fun h1=>Aa h1;have C3:Hid (∀wx,Cur wx g base bs A c (hA1 bs) (hE2 bs)->Calls prog 112 #[.pointer (some ⟨g,0,none⟩), .int .i64 32768] wx fun e w'=>e= .returned (.int .i64 (hN bs:Nat))/\Cur w' g base bs A c (hA2 bs) (hE3 bs)/\Kept (By g wx) wx w'):=fun wx hc=>ID wx g base bs A c _ _ 32768 N h8 mw hc;have C4:Hid (∀wx,Cur wx g base bs A c (hA2 bs) (hE3 bs)->Calls prog 112 #[.pointer (some ⟨g,0,none⟩), .int .i64 32768] wx fun e w'=>e= .returned (.int .i64 (hP bs:Nat))/\Cur w' g base bs A c (hA3 bs) (hE4 bs)/\Kept (By g wx) wx w'):=fun wx hc=>ID wx g base bs A c _ _ 32768 N h8 mw hc;have C5:Hid (1032*hP bs+64<hN bs->∀wx,Cur wx g base bs A c (hA3 bs) (hE4 bs)->Calls prog 186 #[.pointer (some ⟨g,0,none⟩), .int .i64 6] wx fun e w'=>e= .returned (.tuple #[])/\Cur w' g base bs A c (hA3 bs) (hE5 bs)/\Kept (fun x=>x≠g) wx w'):=fun h1 wx hc=>by rw[show hE5 bs=FX (hE4 bs) 6 from Ab h1];exact GM wx g base bs A c _ _ 6 hc
 have M:Hid (¬1032*hP bs+64<hN bs->hE5 bs=hE4 bs):=fun h1=>Aa h1;have ac:=VL h8;have af:=PU h8;have ae:=PJ h8;generalize Dr bs=wy at *;generalize hN bs=n at *;generalize hP bs=p at *;generalize hA1 bs=a1 at *;generalize hA2 bs=a2 at *;generalize hA3 bs=a3 at *;generalize hE1 bs=e1 at *;generalize hE2 bs=e2 at *;generalize hE3 bs=e3 at *;generalize hE4 bs=e4 at *;generalize hE5 bs=e5 at *;have d0:=h.ptr;have H:=hid h;have s1:IntKind.i64.wrap (wy:Int)=(wy:Int):=m4
 have s2:IntKind.i64.wrap (1032*(p:Int))=1032*(p:Int):=m4
 have s3:IntKind.i64.wrap (1032*(p:Int)+64)=1032*(p:Int)+64:=m4
 clear h h8;go_enter func248,ntmps248;go_wp2_with fail;refine(C1.out _ H.out.cur).mono ?_;rintro e w1 ⟨rfl,ab,Q⟩;have F1:=H.out.on ab Q;have K1:Hid (Kept (Rest fb g w) w w1):=I9 (Kept.refl _ _) Q;have f1:=F1.blk.frozen 1;have q1:=F1.blk.ia 1;have F2:=hid (F1.setWay wy);have K2:Hid (Kept (Rest fb g w) w (w1.setCell ⟨fb,1,none⟩ (.int .i64 wy))):=J0 K1.out;have d0:=F1.ptr;clear F1 ab Q K1 H C1;go_upto_region 1 with fail;generalize w1.setCell ⟨fb,1,none⟩ (.int .i64 wy)=w2 at *;clear d0 f1 q1;have d0:=F2.out.ptr;have d1:=F2.out.blk.ia 1;by_cases L:1<wy
 ·have g1:=ic ((1:Int)<wy)
  have Z:=ic (1<wy)
  go_wp2_with fail;refine(C2.out L _ F2.out.cur).mono ?_;rintro e w3 ⟨rfl,aa,Y⟩;have F3:=hid (F2.out.fail aa Y);have K3:Hid (Kept (Rest fb g w) w w3):=MW K2.out Y;clear aa Y F2 K2 d0 d1 C2 U L g1 Z;have d0:=F3.out.ptr;go_wp2_with fail;refine(C3.out _ F3.out.cur).mono ?_;rintro e w4 ⟨rfl,E,z⟩;have F4:=F3.out.on E z;have K4:Hid (Kept (Rest fb g w) w w4):=I9 K3.out z;have f2:=F4.blk.frozen 2;have q2:=F4.blk.ia 2;have F5:=hid (F4.setN n);have K5:Hid (Kept (Rest fb g w) w (w4.setCell ⟨fb,2,none⟩ (.int .i64 n))):=J0 K4.out;clear E z F3 K3 K4 C3 d0 F4;go_upto_region 4 with fail;generalize w4.setCell ⟨fb,2,none⟩ (.int .i64 n)=w5 at *;clear f2 q2;have d0:=F5.out.ptr;go_wp2_with fail;refine(C4.out _ F5.out.cur).mono ?_;rintro e w6 ⟨rfl,J,j⟩;have F6:=F5.out.on J j;have K6:Hid (Kept (Rest fb g w) w w6):=I9 K5.out j;have f3:=F6.blk.frozen 3;have q3:=F6.blk.ia 3;have F7:=hid (F6.setP p);have K7:Hid (Kept (Rest fb g w) w (w6.setCell ⟨fb,3,none⟩ (.int .i64 p))):=J0 K6.out;clear J j F5 K5 K6 C4 d0 F6;go_upto_region 5 with fail;generalize w6.setCell ⟨fb,3,none⟩ (.int .i64 p)=w7 at *;clear f3 q3;have d0:=F7.out.ptr;have d2:=F7.out.blk.ia 2;have d3:=F7.out.blk.ia 3;by_cases i:1032*p+64<n
  ·have g4:=ic (1032*(p:Int)+64<(n:Int));have g5:=ic (1032*p+64<n);go_quiet (fail);have F8:=hid (F7.out.drewN nq);go_wp2_with fail;refine(C5.out i _ F8.out.cur).mono ?_;rintro e w8 ⟨rfl,G,y⟩;have F9:=hid (F8.out.fail G y);have K9:Hid (Kept (Rest fb g w) w w8):=MW (K7.out.drewN nq) y;clear G y F8 F7 K7 C5 M d0 d2 d3;go_wp2_with fail;refine bodyPost_end (BJ rfl _ _ _) rfl ?_;exact⟨rfl,F9.out,K9.out⟩
  ·have g4:=ig (1032*(p:Int)+64<(n:Int));have g5:=ig (1032*p+64<n);have F8:Hid (Fr w7 fb g base bs A c a3 e5 wy n p bv):=(by rw[M.out i];exact F7.out);go_quiet (fail);go_wp2_with fail;refine bodyPost_end (BJ rfl _ _ _) rfl ?_;exact⟨rfl,F8.out.drewN _,K7.out.drewN _⟩
 ·have g1:=ig ((1:Int)<wy)
  have Z:=ig (1<wy)
  have F3:Hid (Fr w2 fb g base bs A c a1 e2 wy 0 0 bv):=by rw[U.out L];exact F2.out
  have K3:=K2;obtain⟨w3,rfl⟩:=ii w2;clear F2 K2 C2 U L;go_wp2_with fail;refine(C3.out _ F3.out.cur).mono ?_;rintro e w4 ⟨rfl,E,z⟩;have F4:=F3.out.on E z;have K4:Hid (Kept (Rest fb g w) w w4):=I9 K3.out z;have f2:=F4.blk.frozen 2;have q2:=F4.blk.ia 2;have F5:=hid (F4.setN n);have K5:Hid (Kept (Rest fb g w) w (w4.setCell ⟨fb,2,none⟩ (.int .i64 n))):=J0 K4.out;clear E z F3 K3 K4 C3 d0 F4;go_upto_region 4 with fail;generalize w4.setCell ⟨fb,2,none⟩ (.int .i64 n)=w5 at *;clear f2 q2;have d0:=F5.out.ptr;go_wp2_with fail;refine(C4.out _ F5.out.cur).mono ?_;rintro e w6 ⟨rfl,J,j⟩;have F6:=F5.out.on J j;have K6:Hid (Kept (Rest fb g w) w w6):=I9 K5.out j;have f3:=F6.blk.frozen 3;have q3:=F6.blk.ia 3;have F7:=hid (F6.setP p);have K7:Hid (Kept (Rest fb g w) w (w6.setCell ⟨fb,3,none⟩ (.int .i64 p))):=J0 K6.out;clear J j F5 K5 K6 C4 d0 F6;go_upto_region 5 with fail;generalize w6.setCell ⟨fb,3,none⟩ (.int .i64 p)=w7 at *;clear f3 q3;have d0:=F7.out.ptr;have d2:=F7.out.blk.ia 2;have d3:=F7.out.blk.ia 3;by_cases i:1032*p+64<n
  ·have g4:=ic (1032*(p:Int)+64<(n:Int));have g5:=ic (1032*p+64<n);go_quiet (fail);have F8:=hid (F7.out.drewN nq);go_wp2_with fail;refine(C5.out i _ F8.out.cur).mono ?_;rintro e w8 ⟨rfl,G,y⟩;have F9:=hid (F8.out.fail G y);have K9:Hid (Kept (Rest fb g w) w w8):=MW (K7.out.drewN nq) y;clear G y F8 F7 K7 C5 M d0 d2 d3;go_wp2_with fail;refine bodyPost_end (BJ rfl _ _ _) rfl ?_;exact⟨rfl,F9.out,K9.out⟩
  ·have g4:=ig (1032*(p:Int)+64<(n:Int));have g5:=ig (1032*p+64<n);have F8:Hid (Fr w7 fb g base bs A c a3 e5 wy n p bv):=(by rw[M.out i];exact F7.out);go_quiet (fail);go_wp2_with fail;refine bodyPost_end (BJ rfl _ _ _) rfl ?_;exact⟨rfl,F8.out.drewN _,K7.out.drewN _⟩
end Block
namespace Block
open Go.RowKit Mem Own Canon
open Nums Crc
theorem rest_any(w:World)(fb g base:Nat)(bs:List Nat)(A:Option Addr)(c:Nat)(way n p:Nat)(X:Option Addr)(d:Nat)(ae:bs.length<=100000)(hd:bs.length<=d)(h8:∀x∈bs,x<=255)(hp:p=hP bs)(ht:TabAt w)
 (hx:Row w w X bs.length 1 (jZ .u8 bs))(hX:0<bs.length->∀a,X=some a->a.add 0=a)(ac:0<bs.length->∀a,X=some a->a.block≠g/\a.block≠fb)(aa:0≠g/\0≠fb)(ag:base<=w.heap.size)
 (h:Fr w fb g base bs A c (hA3 bs) (hE5 bs) way n p (.slice none 0 0)):
 Calls prog 249 #[.pointer (some ⟨fb,0,none⟩), .slice X bs.length d] w fun e w'=>e= .returned (.tuple #[])/\∃v,w'.ownsRow base 5 1 v (CI bs).length (cZ .u8 (CI bs))/\Fr w' fb g base bs A c (hA5 bs) (hE8 bs) way n p v/\Kept (Rest fb g w) w w':=by
 have aq:=Wo h8;have C1:Hid (∀wx,Cur wx g base bs A c (hA3 bs) (hE5 bs)->Calls prog 187 #[.pointer (some ⟨g,0,none⟩),p] wx fun e w'=>∃v,e= .returned v/\w'.ownsRow wx 5 1 v (CI bs).length (cZ .u8 (CI bs))/\Cur w' g base bs A c (hA4 bs) (hE6 bs)/\Kept (By g wx) wx w'):=fun wx hc=>by subst hp;exact JC wx g base bs A c _ _ (hP bs) ae (by have:=PJ h8;omega) hc
 have C2:Hid (∀wx,Cur wx g base bs A c (hA4 bs) (hE6 bs)->Calls prog 187 #[.pointer (some ⟨g,0,none⟩), .int .i64 4] wx fun e w'=>∃v,e= .returned v/\w'.ownsRow wx 5 1 v (Bu bs (hA4 bs) (hE6 bs) 4).length (cZ .u8 (Bu bs (hA4 bs) (hE6 bs) 4))/\Cur w' g base bs A c (hA5 bs) (hE7 bs)/\Kept (By g wx) wx w'):=fun wx hc=>JC wx g base bs A c _ _ 4 ae mw hc;have C3:Hid (∀wx er,Cur wx g base bs A c (hA5 bs) er->Calls prog 113 #[.pointer (some ⟨g,0,none⟩)] wx fun e w'=>e= .returned (.int .i64 er)/\w'=wx):=fun wx er hc=>Dl wx g base bs A c _ er hc;have C4:Hid (∀wx er,Cur wx g base bs A c (hA5 bs) er->Calls prog 195 #[.pointer (some ⟨g,0,none⟩)] wx fun e w'=>e= .returned (.int .i64 (hA5 bs:Nat))/\w'=wx):=fun wx er hc=>Jq wx g base bs A c _ er hc;have ah:∀x∈bs.take (hA5 bs),x<=255:=fun x hx=>h8 x (CV hx);have ai:(bs.take (hA5 bs)).length=hA5 bs:=mQ
 have ab:hE7 bs=0->0<bs.length:=fun h=>by
  unfold hE7 BK at h;split at h
  ·contradiction
  ·split at h
   ·cases h
   ·omega
 have KS:=hid (fun(h:hE7 bs=0) wx=>Fy (P:=prog) (t:=28) (s:=1) underlying28 (fun _=>by kernel_rfl) X bs.length d .i64 ((hA5 bs:Nat):Int) (hA5 bs) rfl mw (hX (ab h)) wx);have Y:∀wx,Kept (Rest fb g w) w wx->TabAt wx/\Row wx wx X (hA5 bs) 1 (jZ .u8 (bs.take (hA5 bs))):=fun wx hk=>by refine⟨fun i hi=>(World.cell?_of_block (a:=⟨_,i,none⟩) (hk.block _ ⟨ht.lt,aa.1,aa.2⟩)).trans (ht i hi),?_⟩;refine Gu (n:=bs.length) ?_ aq;intro h0;obtain⟨b,o,e,hb,hc⟩:=hx h0;have af:=ac h0 _ e;refine⟨b,o,e,by have:=hk.size;omega,fun i j hi hj=> ?_⟩;exact(World.cell?_of_block (a:=⟨b,o+(i*1+j),none⟩) (hk.block b ⟨hb,af.1,af.2⟩)).trans (hc i j hi hj)
 have C5:Hid (∀wx,Kept (Rest fb g w) w wx->Calls prog 60 #[.slice X (hA5 bs) d] wx (Je (bs.take (hA5 bs)) wx)):=fun wx hk=>MH wx X (hA5 bs) d _ ai mw mw ah (Y wx hk).1 (Y wx hk).2;have C6:Hid (∀wx er e2,Cur wx g base bs A c (hA5 bs) er->Calls prog 186 #[.pointer (some ⟨g,0,none⟩), .int .i64 e2] wx fun e w'=>e= .returned (.tuple #[])/\Cur w' g base bs A c (hA5 bs) (FX er e2)/\Kept (fun x=>x≠g) wx w'):=fun wx er e2 hc=>GM wx g base bs A c _ er e2 hc;have E8:Hid ((hE7 bs≠0->hE8 bs=hE7 bs)/\(hE7 bs=0->hE8 bs=FX 0 (Cw (bs.take (hA5 bs))))):=⟨fun h=>Ab h,fun h=>(Aa (by rw[h];simp)).trans rfl⟩;unfold Je at C5;have H:=hid h;clear ht hx hX ac ab aa ai ah Y hp h8 h;generalize hA3 bs=a3 at *;generalize hA4 bs=a4 at *;generalize hA5 bs=a5 at *;generalize hE5 bs=e5 at *;generalize hE6 bs=e6 at *;generalize hE7 bs=e7 at *;generalize hE8 bs=e8 at *;generalize CI bs=body at *;generalize Bu bs a4 e6 4=am at *;generalize Cw (bs.take a5)=ce at *;generalize Bh (bs.take a5)=co at *;have d0:=H.out.ptr;have d3:=H.out.blk.ia 3;have d4:=H.out.blk.ia 4;have f4:=H.out.blk.frozen 4;go_enter func249,ntmps249;go_upto_region 0 with fail;have F0:=H.out.drew;go_region_held3 (fun wx=>wx.cell? ⟨fb,0,none⟩=some (.pointer (some ⟨g,0,none⟩))/\wx.cell? ⟨fb,3,none⟩=some (.int .i64 p)) (first|exact⟨d0,d3⟩|exact k0|exact k1) (first|(go_at_call 187;(with_reducible refine(C1.out _ F0.cur).mono ?_);rintro e w1 ⟨v,rfl,y,al,L⟩;obtain⟨va,vc,rfl⟩:=bZ y;have F1:=F0.on al L;have k0:w1.cell? ⟨fb,0,none⟩=some (.pointer (some ⟨g,0,none⟩))/\w1.cell? ⟨fb,3,none⟩=some (.int .i64 p):=⟨F1.ptr,F1.blk.cell 3⟩;have q4:w1.cell? ⟨fb,4,none⟩=some (.slice none 0 0):=F1.blk.cell 4;have qf:w1.frozen? ⟨fb,4,none⟩=false:=F1.blk.frozen 4;have F2:=F1.setB (.slice va body.length vc);have k1:(w1.setCell ⟨fb,4,none⟩ (.slice va body.length vc)).cell? ⟨fb,0,none⟩=some (.pointer (some ⟨g,0,none⟩))/\(w1.setCell ⟨fb,4,none⟩ (.slice va body.length vc)).cell? ⟨fb,3,none⟩=some (.int .i64 p):=⟨F2.ptr,F2.blk.cell 3⟩));have K1:Hid (Kept (Rest fb g w) w (w1.setCell ⟨fb,4,none⟩ (.slice va body.length vc))):=J0 (I9 ((Kept.refl _ _).drew) L);have U:=hid (kZ (BS (p:=⟨fb,4,none⟩) y (gZ y F1.blk ip) (.slice va body.length vc)) (show w.heap.size<=_ from Ak _));have F2:=hid F2;have ax:=L.size;have ay:(w1.setCell ⟨fb,4,none⟩ (.slice va body.length vc)).heap.size=w1.heap.size:=oK
 generalize w1.setCell ⟨fb,4,none⟩ (.slice va body.length vc)=w2 at *;clear k0 k1 q4 qf y al L F1 F0 d0 d3 d4 f4 H C1;have d0:=F2.out.ptr;go_wp2_with fail;refine(C2.out _ F2.out.cur).mono ?_;rintro e w3 ⟨v3,rfl,E,ak,N⟩;obtain⟨av,aw,rfl⟩:=bZ E;have F3:=hid (F2.out.on ak N);have K3:Hid (Kept (Rest fb g w) w w3):=I9 K1.out N;have Q:Hid (w3.ownsRow w 5 1 (.slice va body.length vc) body.length (cZ .u8 body)):=eZ U.out (fun x hx=>N.block x ⟨(Aj U.out x hx).2,fun e=>gZ U.out F2.out.cur.blk ip (hx.trans (Aw some e))⟩);clear E ak N F2 K1 U d0 C2;have d0:=F3.out.ptr;go_wp2_with fail;refine(C3.out _ _ F3.out.cur).mono ?_;rintro e w4 ⟨rfl,rfl⟩;by_cases z:e7=0
 ·have hE:=E8.out.2 z;have ks:=KS.out z;subst z;clear KS;go_wp2_with fail;refine(C4.out _ _ F3.out.cur).mono ?_;rintro e w5 ⟨rfl,rfl⟩;go_wp2_with fail;refine(C5.out _ K3.out).mono ?_;rintro e w6 ⟨v6,rfl,G,J⟩;obtain⟨au,ar,rfl⟩:=bZ G;have F6:Hid (Fr w6 fb g base bs A c a5 0 way n p (.slice va body.length vc)):=⟨F3.out.blk.step J,F3.out.cur.step J,F3.out.lo⟩;have K6:Hid (Kept (Rest fb g w) w w6):=K3.out.trans (Kept.of_below J (fun x hx=>by have:=hx.1;have:=K3.out.size;omega));have Z:Hid (w6.ownsRow w 5 1 (.slice va body.length vc) body.length (cZ .u8 body)):=eZ Q.out (fun x hx=>J.block x (Aj Q.out x hx).2);clear G J F3 K3 Q d0 C3 C4 C5;have d0:=F6.out.ptr;go_wp2_with fail;refine(C6.out _ _ ce F6.out.cur).mono ?_;rintro e w7 ⟨rfl,aj,M⟩;have F7:=hid (F6.out.fail aj M);have K7:Hid (Kept (Rest fb g w) w w7):=MW K6.out M;have an:Hid (w7.ownsRow w 5 1 (.slice va body.length vc) body.length (cZ .u8 body)):=eZ Z.out (fun x hx=>M.block x (fun e=>gZ Z.out F6.out.cur.blk ip (hx.trans (Aw some e))));have HE:=hid hE;clear aj M F6 K6 Z d0 C6 hE;go_wp2_with fail;refine bodyPost_end (BJ rfl _ _ _) rfl ?_;exact⟨rfl,_,kZ an.out ag,by rw[HE.out];exact F7.out,K7.out⟩
 ·have hE:=E8.out.1 z;have g1:(e7 != 0)=true:=by simpa using z
  have HE:=hid hE;clear hE z;go_wp2_with fail;refine Cz (BJ rfl _ _ _) rfl ?_;exact⟨rfl,_,kZ Q.out ag,by rw[HE.out];exact F3.out,K3.out⟩
end Block
namespace Block
open Go.RowKit Mem Own Canon
open Nums Crc
open Huff (Cg Do LO tkF KW QG PV JL)
open Toks (Tk AW)
theorem Vn{body:List Nat}(he:(Cg body n).2=0):∀t∈(Cg body n).1,(0<=t.lit/\t.lit<=255)/\AW t.lit t.len t.dist=true:=fun t ht=>by have h:=((PV body n).1 he).1 t ht;exact⟨h.2.1,h.1⟩
theorem j4(ts:List Tk):(ts.length:Int)<=Huff.B4 ts:=by
 induction ts with
 |nil=>simp[Huff.B4]
 |cons t ts ih=>simp only[Huff.B4,List.length_cons];omega
theorem kI{body:List Nat}(he:(Cg body n).2=0):(Cg body n).1.length<=n:=by have h:=((PV body n).1 he).2;have:=j4 (Cg body n).1;omega
def BytesPost(base way n p:Nat)(body:List Nat)(w:World)(e:Ending)(w':World):Prop:=
 ∃v,e= .returned (.tuple #[v, .int .i64 (byE way n p body)])/\w'.ownsRow base 5 1 v (byO way n p body).length (cZ .u8 (byO way n p body))/\Below w w w'
theorem bytes_any(w:World)(fb g base:Nat)(bs:List Nat)(A:Option Addr)(c at_:Nat)(er:Int)(way n p:Nat)(va:Option Addr)(vc:Nat)(body:List Nat)(hn:n<=32768)(hp:p<=32768)(aj:body.length<=100000)(h8:∀x∈body,x<=255)(al:base<=w.heap.size)
 (G:w.ownsRow base 5 1 (.slice va body.length vc) body.length (cZ .u8 body))(h:Fr w fb g base bs A c at_ er way n p (.slice va body.length vc)):
 Calls prog 250 #[.pointer (some ⟨fb,0,none⟩)] w (BytesPost base way n p body w):=by
 have d0:=h.ptr;have d1:=h.blk.ia 1;have d2:=h.blk.ia 2;have d3:=h.blk.ia 3;have d4:=h.blk.ia 4;unfold BytesPost;by_cases hw:way=0
 ·subst hw;by_cases ae:n=p
  ·subst ae;have hE:byE 0 n n body=0:=(by unfold byE;rw[Ab rfl,Aa oK]);have hO:byO 0 n n body=body:=(by unfold byO;rw[hE,Aa oK,Ab rfl]);rw[hE,hO];have g1:((n:Int) != (n:Int))=false:=oK;have HO:=hid G;clear h h8 hE hO G;generalize N:body.length=L at *;clear N;go_enter func250,ntmps250;go_wp2_with fail;go_quiet (fail);go_wp2_with fail;go_ret2;exact⟨_,rfl,eZ HO.out (fun x hx=>rfl),below_drewN (Ag _ _) _⟩
  ·have hE:byE 0 n p body=2:=(by unfold byE;rw[Ab rfl,Ab ae]);have hO:byO 0 n p body= []:=(by unfold byO;rw[hE,Ab oK]);rw[hE,hO];have g1:((n:Int) != (p:Int))=true:=oT;clear h h8 hE hO G ae;go_enter func250,ntmps250;go_wp2_with fail;go_quiet (fail);go_wp2_with fail;go_ret2;exact⟨_,rfl,AI _ _ _ _,below_drewN (Ag _ _) _⟩
 ·have g0:((way:Int)==0)=false:=by rw[Jl];intro h;simp at h;omega
  have C1:Hid (∀wx,Below w w wx->Calls prog 299 #[.slice va body.length vc,n] wx (KW (Cg body n) wx)):=fun wx hb=>QG wx va body.length vc body n mw mw rfl aj h8 (Jh G) ((own_row G).below hb |>.mono hb.size);have Q:=Vn (body:=body) (n:=n);have U:=kI (body:=body) (n:=n);have hE:=show byE way n p body=_ from Aa hw
  have hO:byO way n p body=if byE way n p body≠0 then []else(Lz.Fm (Cg body n).1 n).1:=by unfold byO;rw[Aa hw]
  unfold KW at C1;generalize Cg body n=R at *;obtain⟨ts,e1⟩:=R;simp only at hE hO C1 Q U;by_cases Y:e1=0
  ·subst Y;rw[Aa oK]at hE;have U:=U rfl;have Q:=Q rfl;have C2:Hid (∀wx A2 c2,Row wx wx A2 ts.length 3 (Toks.GL ts)->Calls prog 300 #[.slice A2 ts.length c2,n] wx (Lz.Lm (Lz.Fm ts n) wx)):=fun wx A2 c2 hr=>Lz.aP wx A2 ts.length c2 ts n mw rfl mw Q hr;unfold Lz.Lm at C2;generalize Lz.Fm ts n=P at *;obtain⟨out,e2⟩:=P;simp only at hE hO C2;by_cases Z:e2=0
   ·subst Z;rw[Aa oK]at hE;by_cases hl:out.length<n
    ·rw[Ab hl]at hE;have M:byO way n p body= []:=(by rw[hO,hE,Ab oK]);rw[hE,M];have g5:=ic ((out.length:Int)<n);have g6:=ic (out.length<n);clear hl;have H:=hid h;have hL:body.length=body.length:=rfl;clear h8 hE hO M G hw hL h;generalize N:body.length=L at *;clear N d3;go_enter func250,ntmps250;go_upto_region 5 with fail;go_region_held3 (fun wx=>wx.cell? ⟨fb,4,none⟩=some (.slice va L vc)/\wx.cell? ⟨fb,2,none⟩=some (.int .i64 n)) (first|exact⟨d4,d2⟩|exact k0) (first|(go_at_call 299;(with_reducible refine(C1.out _ pn).mono ?_);rintro e w2 ⟨v2,rfl,i,j⟩;obtain⟨ab,ac,rfl⟩:=bZ i;have k0:w2.cell? ⟨fb,4,none⟩=some (.slice va L vc)/\w2.cell? ⟨fb,2,none⟩=some (.int .i64 n):=⟨(H.out.drew.blk.step j).cell 4,(H.out.drew.blk.step j).cell 2⟩));have F2:=hid (⟨H.out.drew.blk.step j,H.out.drew.cur.step j,H.out.lo⟩:Fr w2 fb g base bs A c at_ er way n p (.slice va L vc));have J:Hid (Below w w w2):=(Ag _ _).drew.trans j;clear j k0 d0 d1 d2 d4 C1 H;have d2:w2.cell? ⟨fb,2,none⟩=some (.int .i64 n):=F2.out.blk.cell 2;have z:=LI i;generalize ts.length=tl at *;go_wp2_with fail;refine(C2.out _ _ _ z).mono ?_;rintro e w3 ⟨v3,rfl,y,E⟩;obtain⟨af,ag,rfl⟩:=bZ y;have F3:=hid (⟨F2.out.blk.step E,F2.out.cur.step E,F2.out.lo⟩:Fr w3 fb g base bs A c at_ er way n p (.slice va L vc));have aa:Hid (Below w w w3):=J.out.trans (E.mono J.out.size);clear E z i C2 F2 d2;have d2:w3.cell? ⟨fb,2,none⟩=some (.int .i64 n):=F3.out.blk.cell 2;generalize out.length=ol at *;go_wp2_with fail;go_ret2;exact⟨_,rfl,AI _ _ _ _,aa.out⟩
    ·rw[Aa hl]at hE;have M:byO way n p body=out:=(by rw[hO,hE,Aa oK]);rw[hE,M];have g5:=ig ((out.length:Int)<n);have g6:=ig (out.length<n);clear hl;have H:=hid h;have hL:body.length=body.length:=rfl;clear h8 hE hO M G hw hL h;generalize N:body.length=L at *;clear N d3;go_enter func250,ntmps250;go_upto_region 5 with fail;go_region_held3 (fun wx=>wx.cell? ⟨fb,4,none⟩=some (.slice va L vc)/\wx.cell? ⟨fb,2,none⟩=some (.int .i64 n)) (first|exact⟨d4,d2⟩|exact k0) (first|(go_at_call 299;(with_reducible refine(C1.out _ pn).mono ?_);rintro e w2 ⟨v2,rfl,i,j⟩;obtain⟨ab,ac,rfl⟩:=bZ i;have k0:w2.cell? ⟨fb,4,none⟩=some (.slice va L vc)/\w2.cell? ⟨fb,2,none⟩=some (.int .i64 n):=⟨(H.out.drew.blk.step j).cell 4,(H.out.drew.blk.step j).cell 2⟩));have F2:=hid (⟨H.out.drew.blk.step j,H.out.drew.cur.step j,H.out.lo⟩:Fr w2 fb g base bs A c at_ er way n p (.slice va L vc));have J:Hid (Below w w w2):=(Ag _ _).drew.trans j;clear j k0 d0 d1 d2 d4 C1 H;have d2:w2.cell? ⟨fb,2,none⟩=some (.int .i64 n):=F2.out.blk.cell 2;have z:=LI i;generalize ts.length=tl at *;go_wp2_with fail;refine(C2.out _ _ _ z).mono ?_;rintro e w3 ⟨v3,rfl,y,E⟩;obtain⟨af,ag,rfl⟩:=bZ y;have F3:=hid (⟨F2.out.blk.step E,F2.out.cur.step E,F2.out.lo⟩:Fr w3 fb g base bs A c at_ er way n p (.slice va L vc));have aa:Hid (Below w w w3):=J.out.trans (E.mono J.out.size);clear E z i C2 F2 d2;have d2:w3.cell? ⟨fb,2,none⟩=some (.int .i64 n):=F3.out.blk.cell 2;have ak:=hid (kZ y (show base<=_ by have:=J.out.size;omega));clear y;generalize ah:out.length=ol at *;have ai:=hid ah;clear ah;go_wp2_with fail;go_ret2;exact⟨_,rfl,by rw[ai.out];exact ak.out,aa.out⟩
   ·rw[Ab Z]at hE;have M:byO way n p body= []:=(by rw[hO,hE,Ab Z]);rw[hE,M];have g5:(e2 != 0)=true:=(by simpa using Z);clear Z;have H:=hid h;have hL:body.length=body.length:=rfl;clear h8 hE hO M G hw hL h;generalize N:body.length=L at *;clear N d3;go_enter func250,ntmps250;go_upto_region 5 with fail;go_region_held3 (fun wx=>wx.cell? ⟨fb,4,none⟩=some (.slice va L vc)/\wx.cell? ⟨fb,2,none⟩=some (.int .i64 n)) (first|exact⟨d4,d2⟩|exact k0) (first|(go_at_call 299;(with_reducible refine(C1.out _ pn).mono ?_);rintro e w2 ⟨v2,rfl,i,j⟩;obtain⟨ab,ac,rfl⟩:=bZ i;have k0:w2.cell? ⟨fb,4,none⟩=some (.slice va L vc)/\w2.cell? ⟨fb,2,none⟩=some (.int .i64 n):=⟨(H.out.drew.blk.step j).cell 4,(H.out.drew.blk.step j).cell 2⟩));have F2:=hid (⟨H.out.drew.blk.step j,H.out.drew.cur.step j,H.out.lo⟩:Fr w2 fb g base bs A c at_ er way n p (.slice va L vc));have J:Hid (Below w w w2):=(Ag _ _).drew.trans j;clear j k0 d0 d1 d2 d4 C1 H;have d2:w2.cell? ⟨fb,2,none⟩=some (.int .i64 n):=F2.out.blk.cell 2;have z:=LI i;generalize ts.length=tl at *;go_wp2_with fail;refine(C2.out _ _ _ z).mono ?_;rintro e w3 ⟨v3,rfl,y,E⟩;obtain⟨af,ag,rfl⟩:=bZ y;have F3:=hid (⟨F2.out.blk.step E,F2.out.cur.step E,F2.out.lo⟩:Fr w3 fb g base bs A c at_ er way n p (.slice va L vc));have aa:Hid (Below w w w3):=J.out.trans (E.mono J.out.size);clear E z i C2 F2 d2;clear y;generalize out.length=ol at *;go_wp2_with fail;go_ret2;exact⟨_,rfl,AI _ _ _ _,aa.out⟩
  ·rw[Ab Y]at hE;have M:byO way n p body= []:=(by rw[hO,hE,Ab Y]);rw[hE,M];have g1:(e1 != 0)=true:=(by simpa using Y);clear Y U Q;have H:=hid h;have hL:body.length=body.length:=rfl;clear h8 hE hO M G hw hL h;generalize N:body.length=L at *;clear N d3;go_enter func250,ntmps250;go_upto_region 5 with fail;go_region_held3 (fun wx=>wx.cell? ⟨fb,4,none⟩=some (.slice va L vc)/\wx.cell? ⟨fb,2,none⟩=some (.int .i64 n)) (first|exact⟨d4,d2⟩|exact k0) (first|(go_at_call 299;(with_reducible refine(C1.out _ pn).mono ?_);rintro e w2 ⟨v2,rfl,i,j⟩;obtain⟨ab,ac,rfl⟩:=bZ i;have k0:w2.cell? ⟨fb,4,none⟩=some (.slice va L vc)/\w2.cell? ⟨fb,2,none⟩=some (.int .i64 n):=⟨(H.out.drew.blk.step j).cell 4,(H.out.drew.blk.step j).cell 2⟩));have F2:=hid (⟨H.out.drew.blk.step j,H.out.drew.cur.step j,H.out.lo⟩:Fr w2 fb g base bs A c at_ er way n p (.slice va L vc));have J:Hid (Below w w w2):=(Ag _ _).drew.trans j;clear j k0 d0 d1 d2 d4 C1 H;clear i;go_wp2_with fail;go_ret2;exact⟨_,rfl,AI _ _ _ _,J.out⟩
end Block
namespace Block
open Go.RowKit Mem Own Canon
open Nums Crc
open Toks (Tk AW)
theorem Qn(most:Int):∀ (ts:List Tk) (out:List Nat),(out.length:Int)<=most->((Lz.EG most out ts).1.length:Int)<=most
 | [],out,h=>h
 |t :: ts,out,h=>by
  rw[Lz.EG];split
  ·rename_i he;refine Qn most ts _ ?_;unfold Lz.GG at he;split at he
   ·split at he
    ·omega
    ·split at he
     ·omega
     ·split
      ·rw[Ae];simp;omega
      ·rw[Lz.LW];omega
   ·omega
  ·simp;omega
theorem jF(ts:List Tk)(n:Nat):(Lz.Fm ts n).1.length<=n:=by
 unfold Lz.Fm;split
 ·simp
 ·have:=Qn n ts [] oK;omega
theorem Vc(bs:List Nat):(CI bs).length<=bs.length:=by
 unfold CI Bu;split
 ·simp
 ·split
  ·simp
  ·simp;omega
theorem PL{bs:List Nat}(h8:∀x∈bs,x<=255):(opO bs).length<=max 32768 bs.length:=by
 have h1:=Vc bs;have h2:=jF (Huff.Cg (CI bs) (hN bs)).1 (hN bs);have h3:=PU h8;unfold opO byO;split
 ·simp
 ·split
  ·simp
  ·split<;>omega
def PQ(bs:List Nat)(w:World)(e:Ending)(w':World):Prop:=
 ∃v1 v2,e= .returned (.tuple #[v1,v2, .int .i64 (opE bs)])/\Below w w w'/\(opE bs=0->hE8 bs=0/\∃fb g A c bv va vc,v1= .pointer (some ⟨fb,0,none⟩)/\v2= .slice va (opO bs).length vc/\Fr w' fb g w bs A c (hA5 bs) 0 (Dr bs) (hN bs) (hP bs) bv/\w'.ownsRow w 5 1 v2 (opO bs).length (cZ .u8 (opO bs)))
theorem iQ(w:World)(bs:List Nat)(X:Option Addr)(d:Nat)(M:bs.length<=100000)(hd:bs.length<=d)(hX:X=none->bs.length=0/\d=0)(Q:0<bs.length->∀a,X=some a->a.add 0=a/\a.block<w.heap.size)(h8:∀x∈bs,x<=255)(ht:TabAt w)(hx:Row w w X bs.length 1 (jZ .u8 bs)):
 Calls prog 200 #[.slice X bs.length d] w (PQ bs w):=by
 have C1:=hid (Nums.new_any w X bs.length d bs rfl M hX hx);have C2:Hid (∀wx fb g B e (h:Fr wx fb g w bs B e 0 0 0 0 0 (.slice none 0 0)),Calls prog 248 #[.pointer (some ⟨fb,0,none⟩)] wx fun e' w'=>e'= .returned (.tuple #[])/\Fr w' fb g w bs B e (hA3 bs) (hE5 bs) (Dr bs) (hN bs) (hP bs) (.slice none 0 0)/\Kept (Rest fb g wx) wx w'):=fun wx fb g B e h=>kX wx fb g w bs B e _ M h8 h;have C3:Hid (∀wx fb g B e (hb:Below w w wx) (h:Fr wx fb g w bs B e (hA3 bs) (hE5 bs) (Dr bs) (hN bs) (hP bs) (.slice none 0 0)),Calls prog 249 #[.pointer (some ⟨fb,0,none⟩), .slice X bs.length d] wx fun e' w'=>e'= .returned (.tuple #[])/\∃v,w'.ownsRow w 5 1 v (CI bs).length (cZ .u8 (CI bs))/\Fr w' fb g w bs B e (hA5 bs) (hE8 bs) (Dr bs) (hN bs) (hP bs) v/\Kept (Rest fb g wx) wx w'):=fun wx fb g B e hb h=>Block.rest_any wx fb g w bs B e _ _ _ X d M hd h8 rfl (ht.below hb ht.lt) ((hx.below hb).mono hb.size) (fun h0 a ha=>(Q h0 a ha).1) (fun h0 a ha=>by have:=(Q h0 a ha).2;have:=h.cur.lo;have:=h.lo;omega) (by have:=ht.lt;have:=h.cur.lo;have:=h.lo;omega) hb.size h;have C4:Hid (∀wx g B e a er (h:Cur wx g w bs B e a er),Calls prog 113 #[.pointer (some ⟨g,0,none⟩)] wx fun e' w'=>e'= .returned (.int .i64 er)/\w'=wx):=fun wx g B e a er h=>Dl wx g w bs B e a er h;have av:=Vc bs;have ah:∀x∈CI bs,x<=255:=fun x hx=>h8 x (Qv hx);have C5:Hid (∀wx fb g B e a er va vc (hb:w.heap.size<=wx.heap.size) (ho:wx.ownsRow w 5 1 (.slice va (CI bs).length vc) (CI bs).length (cZ .u8 (CI bs))) (h:Fr wx fb g w bs B e a er (Dr bs) (hN bs) (hP bs) (.slice va (CI bs).length vc)),Calls prog 250 #[.pointer (some ⟨fb,0,none⟩)] wx (BytesPost w (Dr bs) (hN bs) (hP bs) (CI bs) wx)):=fun wx fb g B e a er va vc hb ho h=>bytes_any wx fb g w bs B e a er _ _ _ va vc _ (PU h8) (PJ h8) mw ah hb ho h;unfold BytesPost at C5;have aa:(hE8 bs≠0->opE bs=hE8 bs)/\(hE8 bs=0->opE bs=byE (Dr bs) (hN bs) (hP bs) (CI bs)):=⟨fun h=>Ab h,fun h=>Aa (by rw[h];simp)⟩;have ac:opE bs=0->opO bs=byO (Dr bs) (hN bs) (hP bs) (CI bs):=fun h=>Aa (by rw[h];simp);have ag:=hid aa;have ai:=hid ac;clear ht hx hX Q h8 ah aa ac;unfold PQ;go_enter func200,ntmps200;go_wp2_with fail;refine C1.out.mono ?_;rintro e w1 ⟨g,B,dd,rfl,J,N⟩;have aj:=N.size;have au:=J.blk.lt
 have HF:Hid (Fr (w1.alloc (.cells #[.pointer (some ⟨g,0,none⟩),ij,ij,ij,()] 262)) w1 g w bs B dd 0 0 0 0 0 (.slice none 0 0)):=
  ⟨Blk.made _ _ _,J.step (aZ (Ag _ _)),aj⟩
 have HB:Hid (Below w w (w1.alloc (.cells #[.pointer (some ⟨g,0,none⟩),ij,ij,ij,()] 262))):=nZ aj N;have hg:w.heap.size<=g:=J.lo;go_upto_region 2 with fail;generalize w1.alloc (.cells #[.pointer (some ⟨g,0,none⟩),ij,ij,ij,()] 262)=w2 at *;generalize w1.heap.size=fb at *;clear J N au C1;go_wp2_with fail;refine(C2.out _ _ _ _ _ HF.out).mono ?_;rintro e w3 ⟨rfl,ab,af⟩;have E:Hid (Below w w w3):=HB.out.trans (af.below (fun x hx=>⟨by have:=HB.out.size;omega,mw,mw⟩));have F3:=hid ab;clear ab af HF HB C2;go_wp2_with fail;refine(C3.out _ _ _ _ _ E.out F3.out).mono ?_;rintro e w4 ⟨rfl,v4,j,L,Z⟩;obtain⟨U,ae,rfl⟩:=bZ j;have z:Hid (Below w w w4):=E.out.trans (Z.below (fun x hx=>⟨by have:=E.out.size;omega,mw,mw⟩));have F4:=hid L;have Y:=hid j;have d0:=L.ptr;clear L Z j F3 E C3;go_wp2_with fail;refine(C4.out _ _ _ _ _ _ F4.out.cur).mono ?_;rintro e w5 ⟨rfl,rfl⟩;by_cases i:hE8 bs=0
 ·have hE:=ag.out.2 i;have F5:Hid (Fr w5 fb g w bs B dd (hA5 bs) 0 (Dr bs) (hN bs) (hP bs) (.slice U (CI bs).length ae)):=by rw[<-i];exact F4.out
  rw[i];have al:=hid i;have HE:=hid hE;clear i hE F4;go_wp2_with fail;refine(C5.out _ _ _ _ _ _ _ _ _ z.out.size Y.out F5.out).mono ?_;rintro e w6 ⟨v6,rfl,y,G⟩;obtain⟨ak,aq,rfl⟩:=bZ y;have am:Hid (Below w w w6):=z.out.trans (G.mono z.out.size);have F6:Hid (Fr w6 fb g w bs B dd (hA5 bs) 0 (Dr bs) (hN bs) (hP bs) (.slice U (CI bs).length ae)):=⟨F5.out.blk.step G,F5.out.cur.step G,F5.out.lo⟩;have an:=hid y;clear y G F5 z Y d0 C4 C5;go_wp2_with fail
  go_ret3
  refine⟨_,_,by rw[HE.out];rfl,am.out,fun h0=>⟨al.out,fb,g,B,dd,_,ak,aq,rfl,?_,F6.out,?_⟩⟩
  ·rw[ai.out h0];rfl
  ·rw[ai.out h0];exact an.out
 ·have hE:=ag.out.1 i;have g1:(hE8 bs != 0)=true:=by simpa using i
  have HE:=hid hE;have ar:=hid i;clear i hE;go_wp2_with fail
  go_ret3
  exact⟨_,_,by rw[HE.out];rfl,z.out,fun h0=>absurd (HE.out.symm.trans h0) ar.out⟩
def Mn(bs:List Nat)(w:World)(e:Ending)(w':World):Prop:=
 ∃v,e= .returned (.tuple #[v, .int .i64 (opA bs), .int .i64 (opE bs)])/\w'.ownsRow w 5 1 v (opO bs).length (cZ .u8 (opO bs))/\Below w w w'
theorem U2(w:World)(bs:List Nat)(X:Option Addr)(n d:Nat)(hn:bs.length=n)(Q:n<=100000)(hd:n<=d)(hX:X=none->n=0/\d=0)(z:0<bs.length->∀a,X=some a->a.add 0=a/\a.block<w.heap.size)(h8:∀x∈bs,x<=255)(ht:TabAt w)(hx:Row w w X n 1 (jZ .u8 bs)):
 Calls prog 122 #[.slice X n d] w (Mn bs w):=by
 subst hn;have C1:=hid (iQ w bs X d Q hd hX z h8 ht hx);unfold PQ at C1;have U:=PL h8;unfold Mn;by_cases he:opE bs=0
 ·rw[he]at C1 ⊢;have hA:opA bs=hA5 bs:=Aa (by rw[he];simp);rw[hA];clear ht hx hX z h8 hA he hd;generalize opO bs=out at *;generalize hA5 bs=a5 at *;go_enter func122,ntmps122;go_wp2_with fail;refine C1.out.mono ?_;rintro e w1 ⟨v1,v2,rfl,i,j⟩;obtain⟨_,fb,g,B,dd,bv,va,vc,rfl,rfl,hf,h⟩:=j iy;have J:=Jh h;have y:=own_row h;have D1:Hid (∀wx,Below w1 w1 wx->Calls prog 100 #[.slice va out.length vc] wx fun e' w'=>∃v,e'= .returned v/\w'.ownsRow wx 5 1 v out.length (cZ .u8 out)/\Below wx wx w'):=fun wx hb=>Hw wx va _ vc _ rfl mw J ((y.below hb).mono hb.size);have D2:Hid (∀wx,Below w1 w1 wx->Calls prog 195 #[.pointer (some ⟨g,0,none⟩)] wx fun e' w'=>e'= .returned (.int .i64 (a5:Nat))/\w'=wx):=fun wx hb=>Jq wx g w bs B dd _ 0 (hf.cur.step hb);have d0:w1.cell? ⟨fb,0,none⟩=some (.pointer (some ⟨g,0,none⟩)):=hf.ptr;have KP:Hid (∀wx,Below w1 w1 wx->wx.cell? ⟨fb,0,none⟩=some (.pointer (some ⟨g,0,none⟩))):=fun wx hb=>(hb.cell (p:=⟨fb,0,none⟩) hf.blk.lt).trans hf.ptr;have E:=hid i;clear i hf h J y C1 j;generalize L:out.length=ol at *;have M:=hid L;clear L;go_upto_region 4 with fail;have b0:Below w1 w1 w1.drew:=(Ag _ _).drew;go_region_held3 (fun wx=>wx.cell? ⟨fb,0,none⟩=some (.pointer (some ⟨g,0,none⟩))) (first|exact d0|exact KP.out _ im) (first|(go_at_call 100;(with_reducible refine(D1.out _ im).mono ?_);rintro e' w' ⟨v,rfl,h,hb⟩;have bN:Below w1 w1 w':=uZ im (Below.size im) im)|(go_at_call 195;(with_reducible refine(D2.out _ im).mono ?_);rintro e' w' ⟨rfl,rfl⟩));have hz:=E.out.size;have N:Hid (Below w w w'):=E.out.trans (bN.mono hz);have G:Hid (w'.ownsRow w 5 1 v ol (cZ .u8 out)):=kZ h (show w.heap.size<=w1.heap.size from hz);obtain⟨Z,Y,rfl⟩:=bZ G.out;clear h hb bN b0 D1 D2 KP E d0;go_wp2_with fail
  go_ret3
  exact⟨_,rfl,by rw[M.out];exact G.out,N.out⟩
 ·have hO:opO bs= []:=Ab he;have hA:opA bs=0:=Ab he;rw[hO,hA];have g1:(opE bs != 0)=true:=by simpa using he
  generalize opE bs=er at *;clear ht hx hX z h8 hO hA U hd he;go_enter func122,ntmps122;go_wp2_with fail;refine C1.out.mono ?_;rintro e w1 ⟨v1,v2,rfl,i,j⟩;clear j C1;go_wp2_with fail
  go_ret3
  exact⟨_,rfl,AI _ _ _ _,i⟩
end Block
end Go.Proofs.YtfgdoknipbpfhaaGreatDoor

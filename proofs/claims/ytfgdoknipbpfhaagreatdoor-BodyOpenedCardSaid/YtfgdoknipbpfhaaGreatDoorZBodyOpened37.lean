/- Plain: a frame, as i -/
import Derived.Test.YtfgdoknipbpfhaaGreatDoorZBodyOpened10
import Derived.Test.YtfgdoknipbpfhaaGreatDoorZBodyOpened36
import Derived.Test.YtfgdoknipbpfhaaGreatDoorZBodyOpened14
namespace Go.Proofs.YtfgdoknipbpfhaaGreatDoor
open Go.Proofs.Tryz
open Go.Lib (hid)
set_option maxHeartbeats 1000000
set_option maxRecDepth 100000
variable{fb g i n:Nat}{u:Value}{j:Int}{w w1 w2:World}
namespace Block
open Nums Crc
open Huff (Cp)
def D9(bs:List Nat):Nat:=GE bs 0 0
def hA1(bs:List Nat):Nat:=takeA bs 0 0 1
def hE1(bs:List Nat):Int:=BQ bs 0 0 1
def hE2(bs:List Nat):Int:=if 1<D9 bs then Ga (hE1 bs) 2 else hE1 bs
def hN(bs:List Nat):Nat:=Ba 32768 bs (hA1 bs) (hE2 bs)
def hA2(bs:List Nat):Nat:=AM 32768 bs (hA1 bs) (hE2 bs)
def hE3(bs:List Nat):Int:=AO 32768 bs (hA1 bs) (hE2 bs)
def hP(bs:List Nat):Nat:=Ba 32768 bs (hA2 bs) (hE3 bs)
def hA3(bs:List Nat):Nat:=AM 32768 bs (hA2 bs) (hE3 bs)
def hE4(bs:List Nat):Int:=AO 32768 bs (hA2 bs) (hE3 bs)
def hE5(bs:List Nat):Int:=if 1032*hP bs+64<hN bs then Ga (hE4 bs) 6 else hE4 bs
def CQ(bs:List Nat):List Nat:=Bx bs (hA3 bs) (hE5 bs) (hP bs)
def hA4(bs:List Nat):Nat:=takeA bs (hA3 bs) (hE5 bs) (hP bs)
def hE6(bs:List Nat):Int:=BQ bs (hA3 bs) (hE5 bs) (hP bs)
def hA5(bs:List Nat):Nat:=takeA bs (hA4 bs) (hE6 bs) 4
def hE7(bs:List Nat):Int:=BQ bs (hA4 bs) (hE6 bs) 4
def hE8(bs:List Nat):Int:=if hE7 bs≠0 then hE7 bs else CL (bs.take (hA5 bs))
def byE(way n p:Nat)(body:List Nat):Int:=
 if way=0 then if n≠p then 2 else 0
 else if(Cp body n).2≠0 then(Cp body n).2
 else if(Lz.Fy (Cp body n).1 n).2≠0 then(Lz.Fy (Cp body n).1 n).2
 else if(Lz.Fy (Cp body n).1 n).1.length<n then 2 else 0
def byO(way n p:Nat)(body:List Nat):List Nat:=if byE way n p body≠0 then []else if way=0 then body else(Lz.Fy (Cp body n).1 n).1
def opE(bs:List Nat):Int:=if hE8 bs≠0 then hE8 bs else byE (D9 bs) (hN bs) (hP bs) (CQ bs)
def opO(bs:List Nat):List Nat:=if opE bs≠0 then []else byO (D9 bs) (hN bs) (hP bs) (CQ bs)
def opA(bs:List Nat):Nat:=if opE bs≠0 then 0 else hA5 bs
theorem Zg{bs:List Nat}(h8:∀x∈bs,x<=255)(at_:Nat)(er:Int):GE bs at_ er<=255:=by
 unfold GE;split
 ·omega
 ·by_cases h:at_<bs.length
  ·rw[Ar,AD h];exact h8 _ (Fo h)
  ·rw[Ar,Fp mz];show 0<=255;omega
theorem R0{bs:List Nat}(h8:∀x∈bs,x<=255)(most at_:Nat)(er:Int):Ba most bs at_ er<=most:=by
 unfold Ba;split
 ·omega
 ·exact(Hl most (bs.drop at_) (fun x hx=>h8 x (Cb hx))).1
theorem intA_le{bs:List Nat}(h8:∀x∈bs,x<=255)(most at_:Nat)(er:Int)(h:at_<=bs.length):AM most bs at_ er<=bs.length:=by
 unfold AM;split
 ·exact h
 ·have:=(Hl most (bs.drop at_) (fun x hx=>h8 x (Cb hx))).2.1;rw[AU]at this;omega
theorem aU(bs:List Nat):hA1 bs<=bs.length:=zW bs 0 0 1 (Cr _)
section
variable {bs:List Nat} (h8:∀x∈bs,x<=255)
include h8
theorem Z9:hA2 bs<=bs.length:=intA_le h8 _ _ _ (aU bs)
theorem ZO:hA3 bs<=bs.length:=intA_le h8 _ _ _ (Z9 h8)
theorem Zw:hA4 bs<=bs.length:=zW bs _ _ _ (ZO h8)
theorem Ze:hA5 bs<=bs.length:=zW bs _ _ _ (Zw h8)
theorem Od:hN bs<=32768:=R0 h8 _ _ _
theorem N6:hP bs<=32768:=R0 h8 _ _ _
theorem YT:D9 bs<=255:=Zg h8 _ _
end
theorem U0{bs:List Nat}{at_:Nat}{er:Int}{x:Nat}(h:x∈Bx bs at_ er n):x∈bs:=by
 unfold Bx at h;split at h
 ·cases h
 ·split at h
  ·cases h
  ·exact Cb (C7 h)
end Block
namespace Block
open Go.RowKit Mem Own Canon
open Nums Crc
structure Fr (w:World) (fb g base:Nat) (bs:List Nat) (A:Option Addr) (c at_:Nat) (er:Int) (way n p:Nat) (bv:Value):Prop where
 blk:Blk w fb 262 #[.pointer (some ⟨g,0,none⟩),way,n,p,bv]
 cur:Cur w g base bs A c at_ er
 lo:base<=fb
section
variable {w w':World} {fb g base:Nat} {bs:List Nat} {A:Option Addr} {c at_:Nat} {er:Int} {way n p:Nat} {bv:Value}
theorem Fr.ne(h:Fr w fb g base bs A c at_ er way n p bv):fb≠g:=Blk.apart h.blk h.cur.blk ip
theorem Fr.drew(h:Fr w fb g base bs A c at_ er way n p bv):Fr w.drew fb g base bs A c at_ er way n p bv:=⟨h.blk,h.cur.drew,h.lo⟩
theorem Fr.drewN(h:Fr w fb g base bs A c at_ er way n p bv)(q:Nat):Fr (w.drewN q) fb g base bs A c at_ er way n p bv:=⟨h.blk,h.cur.drewN q,h.lo⟩
theorem Fr.ptr(h:Fr w fb g base bs A c at_ er way n p bv):w.cell? ⟨fb,0,none⟩=some (.pointer (some ⟨g,0,none⟩)):=h.blk.cell 0
theorem cur_far(h:Cur w g base bs A c at_ er){cs:Array Value}(hb:Blk w fb 262 cs):Cur (w.setCell ⟨fb,i,none⟩ u) g base bs A c at_ er:=
 ⟨h.blk.far (fun e=>Blk.apart hb h.blk ip e.symm) _,BZ h.own (gZ h.own hb ip) _,h.le,h.lo⟩
theorem Fr.on(h:Fr w fb g base bs A c at_ er way n p bv)(hc:Cur w' g base bs A c i j)(hk:Kept (BD g w) w w'):Fr w' fb g base bs A c i j way n p bv:=
 ⟨(hk.block fb ⟨h.blk.lt,h.ne⟩).trans h.blk,hc,h.lo⟩
theorem Fr.fail(h:Fr w fb g base bs A c at_ er way n p bv)(hc:Cur w' g base bs A c i j)(hk:Kept (fun x=>x≠g) w w'):Fr w' fb g base bs A c i j way n p bv:=
 ⟨(hk.block fb h.ne).trans h.blk,hc,h.lo⟩
theorem Fr.setWay(h:Fr w fb g base bs A c at_ er way n p bv)(x:Nat):Fr (w.setCell ⟨fb,1,none⟩ (.int .i64 x)) fb g base bs A c at_ er x n p bv:=⟨h.blk.set 1 _,cur_far h.cur h.blk,h.lo⟩
theorem Fr.setN(h:Fr w fb g base bs A c at_ er way n p bv)(x:Nat):Fr (w.setCell ⟨fb,2,none⟩ (.int .i64 x)) fb g base bs A c at_ er way x p bv:=⟨h.blk.set 2 _,cur_far h.cur h.blk,h.lo⟩
theorem Fr.setP(h:Fr w fb g base bs A c at_ er way n p bv)(x:Nat):Fr (w.setCell ⟨fb,3,none⟩ (.int .i64 x)) fb g base bs A c at_ er way n x bv:=⟨h.blk.set 3 _,cur_far h.cur h.blk,h.lo⟩
theorem Fr.setB(h:Fr w fb g base bs A c at_ er way n p bv)(x:Value):Fr (w.setCell ⟨fb,4,none⟩ x) fb g base bs A c at_ er way n p x:=⟨h.blk.set 4 _,cur_far h.cur h.blk,h.lo⟩
end
def Rest(fb g:Nat)(w:World)(x:Nat):Prop:=x<w.heap.size/\x≠g/\x≠fb
theorem Je(h:Kept (Rest fb g w) w w1)(k:Kept (BD g w1) w1 w2):Kept (Rest fb g w) w w2:=
 h.trans ⟨k.os,k.tape,k.output,k.size,fun x hx=>k.block x ⟨by have:=hx.1;have:=h.size;omega,hx.2.1⟩⟩
theorem MP(h:Kept (Rest fb g w) w w1)(k:Kept (fun x=>x≠g) w1 w2):Kept (Rest fb g w) w w2:=
 h.trans ⟨k.os,k.tape,k.output,k.size,fun x hx=>k.block x hx.2.1⟩
theorem J4(h:Kept (Rest fb g w) w w1):Kept (Rest fb g w) w (w1.setCell ⟨fb,i,none⟩ u):=h.set (fun h=>h.2.2 rfl) _
theorem XF(w:World)(fb g base:Nat)(bs:List Nat)(A:Option Addr)(c:Nat)(bv:Value)(Q:bs.length<=100000)(h8:∀x∈bs,x<=255)(h:Fr w fb g base bs A c 0 0 0 0 0 bv):
 Calls prog 248 #[.pointer (some ⟨fb,0,none⟩)] w fun e w'=>e= .returned (.tuple #[])/\Fr w' fb g base bs A c (hA3 bs) (hE5 bs) (D9 bs) (hN bs) (hP bs) bv/\Kept (Rest fb g w) w w':=by
 have C1:Hid (∀wx,Cur wx g base bs A c 0 0->Calls prog 219 #[.pointer (some ⟨g,0,none⟩)] wx fun e w'=>e= .returned (.int .u8 (D9 bs:Nat))/\Cur w' g base bs A c (hA1 bs) (hE1 bs)/\Kept (BD g wx) wx w'):=fun wx hc=>Vv wx g base bs A c 0 0 Q hc;have C2:Hid (1<D9 bs->∀wx,Cur wx g base bs A c (hA1 bs) (hE1 bs)->Calls prog 186 #[.pointer (some ⟨g,0,none⟩), .int .i64 2] wx fun e w'=>e= .returned (.tuple #[])/\Cur w' g base bs A c (hA1 bs) (hE2 bs)/\Kept (fun x=>x≠g) wx w'):=fun h1 wx hc=>by rw[show hE2 bs=Ga (hE1 bs) 2 from Ae h1];exact GR wx g base bs A c _ _ 2 hc
 have Z:Hid (¬1<D9 bs->hE2 bs=hE1 bs):=fun h1=>Ab h1;have C3:Hid (∀wx,Cur wx g base bs A c (hA1 bs) (hE2 bs)->Calls prog 112 #[.pointer (some ⟨g,0,none⟩), .int .i64 32768] wx fun e w'=>e= .returned (.int .i64 (hN bs:Nat))/\Cur w' g base bs A c (hA2 bs) (hE3 bs)/\Kept (BD g wx) wx w'):=fun wx hc=>IG wx g base bs A c _ _ 32768 Q h8 mz hc;have C4:Hid (∀wx,Cur wx g base bs A c (hA2 bs) (hE3 bs)->Calls prog 112 #[.pointer (some ⟨g,0,none⟩), .int .i64 32768] wx fun e w'=>e= .returned (.int .i64 (hP bs:Nat))/\Cur w' g base bs A c (hA3 bs) (hE4 bs)/\Kept (BD g wx) wx w'):=fun wx hc=>IG wx g base bs A c _ _ 32768 Q h8 mz hc;have C5:Hid (1032*hP bs+64<hN bs->∀wx,Cur wx g base bs A c (hA3 bs) (hE4 bs)->Calls prog 186 #[.pointer (some ⟨g,0,none⟩), .int .i64 6] wx fun e w'=>e= .returned (.tuple #[])/\Cur w' g base bs A c (hA3 bs) (hE5 bs)/\Kept (fun x=>x≠g) wx w'):=fun h1 wx hc=>by rw[show hE5 bs=Ga (hE4 bs) 6 from Ae h1];exact GR wx g base bs A c _ _ 6 hc
 have M:Hid (¬1032*hP bs+64<hN bs->hE5 bs=hE4 bs):=fun h1=>Ab h1;have af:=YT h8;have ae:=Od h8;have ag:=N6 h8;generalize D9 bs=wy at *;generalize hN bs=n at *;generalize hP bs=p at *;generalize hA1 bs=a1 at *;generalize hA2 bs=a2 at *;generalize hA3 bs=a3 at *;generalize hE1 bs=e1 at *;generalize hE2 bs=e2 at *;generalize hE3 bs=e3 at *;generalize hE4 bs=e4 at *;generalize hE5 bs=e5 at *;have d0:=h.ptr;have H:=hid h;have s1:IntKind.i64.wrap (wy:Int)=(wy:Int):=nV
 have s2:IntKind.i64.wrap (1032*(p:Int))=1032*(p:Int):=nV
 have s3:IntKind.i64.wrap (1032*(p:Int)+64)=1032*(p:Int)+64:=nV
 clear h h8;go_enter func248,ntmps248;go_wp2_with fail;refine(C1.out _ H.out.cur).mono ?_;rintro e w1 ⟨rfl,ab,Y⟩;have F1:=H.out.on ab Y;have K1:Hid (Kept (Rest fb g w) w w1):=Je (Kept.refl _ _) Y;have f1:=F1.blk.frozen 1;have q1:=F1.blk.ia 1;have F2:=hid (F1.setWay wy);have K2:Hid (Kept (Rest fb g w) w (w1.setCell ⟨fb,1,none⟩ (.int .i64 wy))):=J4 K1.out;have d0:=F1.ptr;clear F1 ab Y K1 H C1;go_upto_region 1 with fail;generalize w1.setCell ⟨fb,1,none⟩ (.int .i64 wy)=w2 at *;clear d0 f1 q1;have d0:=F2.out.ptr;have d1:=F2.out.blk.ia 1;by_cases N:1<wy
 ·have g1:=ic ((1:Int)<wy)
  have aa:=ic (1<wy)
  go_wp2_with fail;refine(C2.out N _ F2.out.cur).mono ?_;rintro e w3 ⟨rfl,ac,U⟩;have F3:=hid (F2.out.fail ac U);have K3:Hid (Kept (Rest fb g w) w w3):=MP K2.out U;clear ac U F2 K2 d0 d1 C2 Z N g1 aa;have d0:=F3.out.ptr;go_wp2_with fail;refine(C3.out _ F3.out.cur).mono ?_;rintro e w4 ⟨rfl,G,j⟩;have F4:=F3.out.on G j;have K4:Hid (Kept (Rest fb g w) w w4):=Je K3.out j;have f2:=F4.blk.frozen 2;have q2:=F4.blk.ia 2;have F5:=hid (F4.setN n);have K5:Hid (Kept (Rest fb g w) w (w4.setCell ⟨fb,2,none⟩ (.int .i64 n))):=J4 K4.out;clear G j F3 K3 K4 C3 d0 F4;go_upto_region 4 with fail;generalize w4.setCell ⟨fb,2,none⟩ (.int .i64 n)=w5 at *;clear f2 q2;have d0:=F5.out.ptr;go_wp2_with fail;refine(C4.out _ F5.out.cur).mono ?_;rintro e w6 ⟨rfl,E,z⟩;have F6:=F5.out.on E z;have K6:Hid (Kept (Rest fb g w) w w6):=Je K5.out z;have f3:=F6.blk.frozen 3;have q3:=F6.blk.ia 3;have F7:=hid (F6.setP p);have K7:Hid (Kept (Rest fb g w) w (w6.setCell ⟨fb,3,none⟩ (.int .i64 p))):=J4 K6.out;clear E z F5 K5 K6 C4 d0 F6;go_upto_region 5 with fail;generalize w6.setCell ⟨fb,3,none⟩ (.int .i64 p)=w7 at *;clear f3 q3;have d0:=F7.out.ptr;have d2:=F7.out.blk.ia 2;have d3:=F7.out.blk.ia 3;by_cases i:1032*p+64<n
  ·have g4:=ic (1032*(p:Int)+64<(n:Int));have g5:=ic (1032*p+64<n);go_quiet (fail);have F8:=hid (F7.out.drewN nq);go_wp2_with fail;refine(C5.out i _ F8.out.cur).mono ?_;rintro e w8 ⟨rfl,J,y⟩;have F9:=hid (F8.out.fail J y);have K9:Hid (Kept (Rest fb g w) w w8):=MP (K7.out.drewN nq) y;clear J y F8 F7 K7 C5 M d0 d2 d3;go_wp2_with fail;refine bodyPost_end (BN rfl _ _ _) rfl ?_;exact⟨rfl,F9.out,K9.out⟩
  ·have g4:=ig (1032*(p:Int)+64<(n:Int));have g5:=ig (1032*p+64<n);have F8:Hid (Fr w7 fb g base bs A c a3 e5 wy n p bv):=(by rw[M.out i];exact F7.out);go_quiet (fail);go_wp2_with fail;refine bodyPost_end (BN rfl _ _ _) rfl ?_;exact⟨rfl,F8.out.drewN _,K7.out.drewN _⟩
 ·have g1:=ig ((1:Int)<wy)
  have aa:=ig (1<wy)
  have F3:Hid (Fr w2 fb g base bs A c a1 e2 wy 0 0 bv):=by rw[Z.out N];exact F2.out
  have K3:=K2;obtain⟨w3,rfl⟩:=ii w2;clear F2 K2 C2 Z N;go_wp2_with fail;refine(C3.out _ F3.out.cur).mono ?_;rintro e w4 ⟨rfl,G,j⟩;have F4:=F3.out.on G j;have K4:Hid (Kept (Rest fb g w) w w4):=Je K3.out j;have f2:=F4.blk.frozen 2;have q2:=F4.blk.ia 2;have F5:=hid (F4.setN n);have K5:Hid (Kept (Rest fb g w) w (w4.setCell ⟨fb,2,none⟩ (.int .i64 n))):=J4 K4.out;clear G j F3 K3 K4 C3 d0 F4;go_upto_region 4 with fail;generalize w4.setCell ⟨fb,2,none⟩ (.int .i64 n)=w5 at *;clear f2 q2;have d0:=F5.out.ptr;go_wp2_with fail;refine(C4.out _ F5.out.cur).mono ?_;rintro e w6 ⟨rfl,E,z⟩;have F6:=F5.out.on E z;have K6:Hid (Kept (Rest fb g w) w w6):=Je K5.out z;have f3:=F6.blk.frozen 3;have q3:=F6.blk.ia 3;have F7:=hid (F6.setP p);have K7:Hid (Kept (Rest fb g w) w (w6.setCell ⟨fb,3,none⟩ (.int .i64 p))):=J4 K6.out;clear E z F5 K5 K6 C4 d0 F6;go_upto_region 5 with fail;generalize w6.setCell ⟨fb,3,none⟩ (.int .i64 p)=w7 at *;clear f3 q3;have d0:=F7.out.ptr;have d2:=F7.out.blk.ia 2;have d3:=F7.out.blk.ia 3;by_cases i:1032*p+64<n
  ·have g4:=ic (1032*(p:Int)+64<(n:Int));have g5:=ic (1032*p+64<n);go_quiet (fail);have F8:=hid (F7.out.drewN nq);go_wp2_with fail;refine(C5.out i _ F8.out.cur).mono ?_;rintro e w8 ⟨rfl,J,y⟩;have F9:=hid (F8.out.fail J y);have K9:Hid (Kept (Rest fb g w) w w8):=MP (K7.out.drewN nq) y;clear J y F8 F7 K7 C5 M d0 d2 d3;go_wp2_with fail;refine bodyPost_end (BN rfl _ _ _) rfl ?_;exact⟨rfl,F9.out,K9.out⟩
  ·have g4:=ig (1032*(p:Int)+64<(n:Int));have g5:=ig (1032*p+64<n);have F8:Hid (Fr w7 fb g base bs A c a3 e5 wy n p bv):=(by rw[M.out i];exact F7.out);go_quiet (fail);go_wp2_with fail;refine bodyPost_end (BN rfl _ _ _) rfl ?_;exact⟨rfl,F8.out.drewN _,K7.out.drewN _⟩
end Block
namespace Block
open Go.RowKit Mem Own Canon
open Nums Crc
theorem rest_any(w:World)(fb g base:Nat)(bs:List Nat)(A:Option Addr)(c:Nat)(way n p:Nat)(X:Option Addr)(d:Nat)(ae:bs.length<=100000)(hd:bs.length<=d)(h8:∀x∈bs,x<=255)(hp:p=hP bs)(ht:TabAt w)
 (hx:Row w w X bs.length 1 (jZ .u8 bs))(hX:0<bs.length->∀a,X=some a->a.add 0=a)(af:0<bs.length->∀a,X=some a->a.block≠g/\a.block≠fb)(Z:0≠g/\0≠fb)(al:base<=w.heap.size)
 (h:Fr w fb g base bs A c (hA3 bs) (hE5 bs) way n p (.slice none 0 0)):
 Calls prog 249 #[.pointer (some ⟨fb,0,none⟩), .slice X bs.length d] w fun e w'=>e= .returned (.tuple #[])/\∃v,w'.ownsRow base 5 1 v (CQ bs).length (cZ .u8 (CQ bs))/\Fr w' fb g base bs A c (hA5 bs) (hE8 bs) way n p v/\Kept (Rest fb g w) w w':=by
 have ar:=Ze h8;have C1:Hid (∀wx,Cur wx g base bs A c (hA3 bs) (hE5 bs)->Calls prog 187 #[.pointer (some ⟨g,0,none⟩),p] wx fun e w'=>∃v,e= .returned v/\w'.ownsRow wx 5 1 v (CQ bs).length (cZ .u8 (CQ bs))/\Cur w' g base bs A c (hA4 bs) (hE6 bs)/\Kept (BD g wx) wx w'):=fun wx hc=>by subst hp;exact JK wx g base bs A c _ _ (hP bs) ae (by have:=N6 h8;omega) hc
 have C2:Hid (∀wx,Cur wx g base bs A c (hA4 bs) (hE6 bs)->Calls prog 187 #[.pointer (some ⟨g,0,none⟩), .int .i64 4] wx fun e w'=>∃v,e= .returned v/\w'.ownsRow wx 5 1 v (Bx bs (hA4 bs) (hE6 bs) 4).length (cZ .u8 (Bx bs (hA4 bs) (hE6 bs) 4))/\Cur w' g base bs A c (hA5 bs) (hE7 bs)/\Kept (BD g wx) wx w'):=fun wx hc=>JK wx g base bs A c _ _ 4 ae mz hc;have C3:Hid (∀wx er,Cur wx g base bs A c (hA5 bs) er->Calls prog 113 #[.pointer (some ⟨g,0,none⟩)] wx fun e w'=>e= .returned (.int .i64 er)/\w'=wx):=fun wx er hc=>Dv wx g base bs A c _ er hc;have C4:Hid (∀wx er,Cur wx g base bs A c (hA5 bs) er->Calls prog 195 #[.pointer (some ⟨g,0,none⟩)] wx fun e w'=>e= .returned (.int .i64 (hA5 bs:Nat))/\w'=wx):=fun wx er hc=>Kd wx g base bs A c _ er hc;have ai:∀x∈bs.take (hA5 bs),x<=255:=fun x hx=>h8 x (C7 hx);have ah:(bs.take (hA5 bs)).length=hA5 bs:=nX
 have ag:hE7 bs=0->0<bs.length:=fun h=>by
  unfold hE7 BQ at h;split at h
  ·contradiction
  ·split at h
   ·cases h
   ·omega
 have KS:=hid (fun(h:hE7 bs=0) wx=>FG (P:=prog) (t:=28) (s:=1) underlying28 (fun _=>by kernel_rfl) X bs.length d .i64 ((hA5 bs:Nat):Int) (hA5 bs) rfl mz (hX (ag h)) wx);have ab:∀wx,Kept (Rest fb g w) w wx->TabAt wx/\Row wx wx X (hA5 bs) 1 (jZ .u8 (bs.take (hA5 bs))):=fun wx hk=>by refine⟨fun i hi=>(World.cell?_of_block (a:=⟨_,i,none⟩) (hk.block _ ⟨ht.lt,Z.1,Z.2⟩)).trans (ht i hi),?_⟩;refine GC (n:=bs.length) ?_ ar;intro h0;obtain⟨b,o,e,hb,hc⟩:=hx h0;have ac:=af h0 _ e;refine⟨b,o,e,by have:=hk.size;omega,fun i j hi hj=> ?_⟩;exact(World.cell?_of_block (a:=⟨b,o+(i*1+j),none⟩) (hk.block b ⟨hb,ac.1,ac.2⟩)).trans (hc i j hi hj)
 have C5:Hid (∀wx,Kept (Rest fb g w) w wx->Calls prog 60 #[.slice X (hA5 bs) d] wx (Jh (bs.take (hA5 bs)) wx)):=fun wx hk=>Mj wx X (hA5 bs) d _ ah mz mz ai (ab wx hk).1 (ab wx hk).2;have C6:Hid (∀wx er e2,Cur wx g base bs A c (hA5 bs) er->Calls prog 186 #[.pointer (some ⟨g,0,none⟩), .int .i64 e2] wx fun e w'=>e= .returned (.tuple #[])/\Cur w' g base bs A c (hA5 bs) (Ga er e2)/\Kept (fun x=>x≠g) wx w'):=fun wx er e2 hc=>GR wx g base bs A c _ er e2 hc;have E8:Hid ((hE7 bs≠0->hE8 bs=hE7 bs)/\(hE7 bs=0->hE8 bs=Ga 0 (CL (bs.take (hA5 bs))))):=⟨fun h=>Ae h,fun h=>(Ab (by rw[h];simp)).trans rfl⟩;unfold Jh at C5;have H:=hid h;clear ht hx hX af ag Z ah ai ab hp h8 h;generalize hA3 bs=a3 at *;generalize hA4 bs=a4 at *;generalize hA5 bs=a5 at *;generalize hE5 bs=e5 at *;generalize hE6 bs=e6 at *;generalize hE7 bs=e7 at *;generalize hE8 bs=e8 at *;generalize CQ bs=body at *;generalize Bx bs a4 e6 4=an at *;generalize CL (bs.take a5)=ce at *;generalize Br (bs.take a5)=co at *;have d0:=H.out.ptr;have d3:=H.out.blk.ia 3;have d4:=H.out.blk.ia 4;have f4:=H.out.blk.frozen 4;go_enter func249,ntmps249;go_upto_region 0 with fail;have F0:=H.out.drew;go_region_held3 (fun wx=>wx.cell? ⟨fb,0,none⟩=some (.pointer (some ⟨g,0,none⟩))/\wx.cell? ⟨fb,3,none⟩=some (.int .i64 p)) (first|exact⟨d0,d3⟩|exact k0|exact k1) (first|(go_at_call 187;(with_reducible refine(C1.out _ F0.cur).mono ?_);rintro e w1 ⟨v,rfl,y,aj,N⟩;obtain⟨va,vc,rfl⟩:=bZ y;have F1:=F0.on aj N;have k0:w1.cell? ⟨fb,0,none⟩=some (.pointer (some ⟨g,0,none⟩))/\w1.cell? ⟨fb,3,none⟩=some (.int .i64 p):=⟨F1.ptr,F1.blk.cell 3⟩;have q4:w1.cell? ⟨fb,4,none⟩=some (.slice none 0 0):=F1.blk.cell 4;have qf:w1.frozen? ⟨fb,4,none⟩=false:=F1.blk.frozen 4;have F2:=F1.setB (.slice va body.length vc);have k1:(w1.setCell ⟨fb,4,none⟩ (.slice va body.length vc)).cell? ⟨fb,0,none⟩=some (.pointer (some ⟨g,0,none⟩))/\(w1.setCell ⟨fb,4,none⟩ (.slice va body.length vc)).cell? ⟨fb,3,none⟩=some (.int .i64 p):=⟨F2.ptr,F2.blk.cell 3⟩));have K1:Hid (Kept (Rest fb g w) w (w1.setCell ⟨fb,4,none⟩ (.slice va body.length vc))):=J4 (Je ((Kept.refl _ _).drew) N);have Q:=hid (kZ (BZ (p:=⟨fb,4,none⟩) y (gZ y F1.blk ip) (.slice va body.length vc)) (show w.heap.size<=_ from Aq _));have F2:=hid F2;have av:=N.size;have ax:(w1.setCell ⟨fb,4,none⟩ (.slice va body.length vc)).heap.size=w1.heap.size:=pI
 generalize w1.setCell ⟨fb,4,none⟩ (.slice va body.length vc)=w2 at *;clear k0 k1 q4 qf y aj N F1 F0 d0 d3 d4 f4 H C1;have d0:=F2.out.ptr;go_wp2_with fail;refine(C2.out _ F2.out.cur).mono ?_;rintro e w3 ⟨v3,rfl,E,am,M⟩;obtain⟨az,aw,rfl⟩:=bZ E;have F3:=hid (F2.out.on am M);have K3:Hid (Kept (Rest fb g w) w w3):=Je K1.out M;have U:Hid (w3.ownsRow w 5 1 (.slice va body.length vc) body.length (cZ .u8 body)):=eZ Q.out (fun x hx=>M.block x ⟨(Am Q.out x hx).2,fun e=>gZ Q.out F2.out.cur.blk ip (hx.trans (AE some e))⟩);clear E am M F2 K1 Q d0 C2;have d0:=F3.out.ptr;go_wp2_with fail;refine(C3.out _ _ F3.out.cur).mono ?_;rintro e w4 ⟨rfl,rfl⟩;by_cases z:e7=0
 ·have hE:=E8.out.2 z;have ks:=KS.out z;subst z;clear KS;go_wp2_with fail;refine(C4.out _ _ F3.out.cur).mono ?_;rintro e w5 ⟨rfl,rfl⟩;go_wp2_with fail;refine(C5.out _ K3.out).mono ?_;rintro e w6 ⟨v6,rfl,J,G⟩;obtain⟨au,ay,rfl⟩:=bZ J;have F6:Hid (Fr w6 fb g base bs A c a5 0 way n p (.slice va body.length vc)):=⟨F3.out.blk.step G,F3.out.cur.step G,F3.out.lo⟩;have K6:Hid (Kept (Rest fb g w) w w6):=K3.out.trans (Kept.of_below G (fun x hx=>by have:=hx.1;have:=K3.out.size;omega));have aa:Hid (w6.ownsRow w 5 1 (.slice va body.length vc) body.length (cZ .u8 body)):=eZ U.out (fun x hx=>G.block x (Am U.out x hx).2);clear J G F3 K3 U d0 C3 C4 C5;have d0:=F6.out.ptr;go_wp2_with fail;refine(C6.out _ _ ce F6.out.cur).mono ?_;rintro e w7 ⟨rfl,ak,Y⟩;have F7:=hid (F6.out.fail ak Y);have K7:Hid (Kept (Rest fb g w) w w7):=MP K6.out Y;have aq:Hid (w7.ownsRow w 5 1 (.slice va body.length vc) body.length (cZ .u8 body)):=eZ aa.out (fun x hx=>Y.block x (fun e=>gZ aa.out F6.out.cur.blk ip (hx.trans (AE some e))));have HE:=hid hE;clear ak Y F6 K6 aa d0 C6 hE;go_wp2_with fail;refine bodyPost_end (BN rfl _ _ _) rfl ?_;exact⟨rfl,_,kZ aq.out al,by rw[HE.out];exact F7.out,K7.out⟩
 ·have hE:=E8.out.1 z;have g1:(e7 != 0)=true:=by simpa using z
  have HE:=hid hE;clear hE z;go_wp2_with fail;refine CI (BN rfl _ _ _) rfl ?_;exact⟨rfl,_,kZ U.out al,by rw[HE.out];exact F3.out,K3.out⟩
end Block
namespace Block
open Go.RowKit Mem Own Canon
open Nums Crc
open Huff (Cp Dx zX tkF KO Vc PG JI)
open Toks (Tk A0)
theorem Sn{body:List Nat}(he:(Cp body n).2=0):∀t∈(Cp body n).1,(0<=t.lit/\t.lit<=255)/\A0 t.lit t.len t.dist=true:=fun t ht=>by have h:=((PG body n).1 he).1 t ht;exact⟨h.2.1,h.1⟩
theorem Xm(ts:List Tk):(ts.length:Int)<=Huff.Cg ts:=by
 induction ts with
 |nil=>simp[Huff.Cg]
 |cons t ts ih=>simp only[Huff.Cg,List.length_cons];omega
theorem WP{body:List Nat}(he:(Cp body n).2=0):(Cp body n).1.length<=n:=by have h:=((PG body n).1 he).2;have:=Xm (Cp body n).1;omega
def BytesPost(base way n p:Nat)(body:List Nat)(w:World)(e:Ending)(w':World):Prop:=
 ∃v,e= .returned (.tuple #[v, .int .i64 (byE way n p body)])/\w'.ownsRow base 5 1 v (byO way n p body).length (cZ .u8 (byO way n p body))/\Below w w w'
theorem bytes_any(w:World)(fb g base:Nat)(bs:List Nat)(A:Option Addr)(c at_:Nat)(er:Int)(way n p:Nat)(va:Option Addr)(vc:Nat)(body:List Nat)(hn:n<=32768)(hp:p<=32768)(ai:body.length<=100000)(h8:∀x∈body,x<=255)(al:base<=w.heap.size)
 (E:w.ownsRow base 5 1 (.slice va body.length vc) body.length (cZ .u8 body))(h:Fr w fb g base bs A c at_ er way n p (.slice va body.length vc)):
 Calls prog 250 #[.pointer (some ⟨fb,0,none⟩)] w (BytesPost base way n p body w):=by
 have d0:=h.ptr;have d1:=h.blk.ia 1;have d2:=h.blk.ia 2;have d3:=h.blk.ia 3;have d4:=h.blk.ia 4;unfold BytesPost;by_cases hw:way=0
 ·subst hw;by_cases ac:n=p
  ·subst ac;have hE:byE 0 n n body=0:=(by unfold byE;rw[Ae rfl,Ab pI]);have hO:byO 0 n n body=body:=(by unfold byO;rw[hE,Ab pI,Ae rfl]);rw[hE,hO];have g1:((n:Int) != (n:Int))=false:=pI;have HO:=hid E;clear h h8 hE hO E;generalize N:body.length=L at *;clear N;go_enter func250,ntmps250;go_wp2_with fail;go_quiet (fail);go_wp2_with fail;go_ret2;exact⟨_,rfl,eZ HO.out (fun x hx=>rfl),below_drewN (Ag _ _) _⟩
  ·have hE:byE 0 n p body=2:=(by unfold byE;rw[Ae rfl,Ae ac]);have hO:byO 0 n p body= []:=(by unfold byO;rw[hE,Ae pI]);rw[hE,hO];have g1:((n:Int) != (p:Int))=true:=pQ;clear h h8 hE hO E ac;go_enter func250,ntmps250;go_wp2_with fail;go_quiet (fail);go_wp2_with fail;go_ret2;exact⟨_,rfl,AK _ _ _ _,below_drewN (Ag _ _) _⟩
 ·have g0:((way:Int)==0)=false:=by rw[Jv];intro h;simp at h;omega
  have C1:Hid (∀wx,Below w w wx->Calls prog 299 #[.slice va body.length vc,n] wx (KO (Cp body n) wx)):=fun wx hb=>Vc wx va body.length vc body n mz mz rfl ai h8 (Jl E) ((own_row E).below hb |>.mono hb.size);have Q:=Sn (body:=body) (n:=n);have U:=WP (body:=body) (n:=n);have hE:=show byE way n p body=_ from Ab hw
  have hO:byO way n p body=if byE way n p body≠0 then []else(Lz.Fy (Cp body n).1 n).1:=by unfold byO;rw[Ab hw]
  unfold KO at C1;generalize Cp body n=R at *;obtain⟨ts,e1⟩:=R;simp only at hE hO C1 Q U;by_cases Y:e1=0
  ·subst Y;rw[Ab pI]at hE;have U:=U rfl;have Q:=Q rfl;have C2:Hid (∀wx A2 c2,Row wx wx A2 ts.length 3 (Toks.GQ ts)->Calls prog 300 #[.slice A2 ts.length c2,n] wx (Lz.Nh (Lz.Fy ts n) wx)):=fun wx A2 c2 hr=>Lz.eQ wx A2 ts.length c2 ts n mz rfl mz Q hr;unfold Lz.Nh at C2;generalize Lz.Fy ts n=P at *;obtain⟨out,e2⟩:=P;simp only at hE hO C2;by_cases aa:e2=0
   ·subst aa;rw[Ab pI]at hE;by_cases hl:out.length<n
    ·rw[Ae hl]at hE;have J:byO way n p body= []:=(by rw[hO,hE,Ae pI]);rw[hE,J];have g5:=ic ((out.length:Int)<n);have g6:=ic (out.length<n);clear hl;have H:=hid h;have hL:body.length=body.length:=rfl;clear h8 hE hO J E hw hL h;generalize N:body.length=L at *;clear N d3;go_enter func250,ntmps250;go_upto_region 5 with fail;go_region_held3 (fun wx=>wx.cell? ⟨fb,4,none⟩=some (.slice va L vc)/\wx.cell? ⟨fb,2,none⟩=some (.int .i64 n)) (first|exact⟨d4,d2⟩|exact k0) (first|(go_at_call 299;(with_reducible refine(C1.out _ qh).mono ?_);rintro e w2 ⟨v2,rfl,i,j⟩;obtain⟨ae,ab,rfl⟩:=bZ i;have k0:w2.cell? ⟨fb,4,none⟩=some (.slice va L vc)/\w2.cell? ⟨fb,2,none⟩=some (.int .i64 n):=⟨(H.out.drew.blk.step j).cell 4,(H.out.drew.blk.step j).cell 2⟩));have F2:=hid (⟨H.out.drew.blk.step j,H.out.drew.cur.step j,H.out.lo⟩:Fr w2 fb g base bs A c at_ er way n p (.slice va L vc));have M:Hid (Below w w w2):=(Ag _ _).drew.trans j;clear j k0 d0 d1 d2 d4 C1 H;have d2:w2.cell? ⟨fb,2,none⟩=some (.int .i64 n):=F2.out.blk.cell 2;have y:=Nz i;generalize ts.length=tl at *;go_wp2_with fail;refine(C2.out _ _ _ y).mono ?_;rintro e w3 ⟨v3,rfl,z,G⟩;obtain⟨ag,af,rfl⟩:=bZ z;have F3:=hid (⟨F2.out.blk.step G,F2.out.cur.step G,F2.out.lo⟩:Fr w3 fb g base bs A c at_ er way n p (.slice va L vc));have Z:Hid (Below w w w3):=M.out.trans (G.mono M.out.size);clear G y i C2 F2 d2;have d2:w3.cell? ⟨fb,2,none⟩=some (.int .i64 n):=F3.out.blk.cell 2;generalize out.length=ol at *;go_wp2_with fail;go_ret2;exact⟨_,rfl,AK _ _ _ _,Z.out⟩
    ·rw[Ab hl]at hE;have J:byO way n p body=out:=(by rw[hO,hE,Ab pI]);rw[hE,J];have g5:=ig ((out.length:Int)<n);have g6:=ig (out.length<n);clear hl;have H:=hid h;have hL:body.length=body.length:=rfl;clear h8 hE hO J E hw hL h;generalize N:body.length=L at *;clear N d3;go_enter func250,ntmps250;go_upto_region 5 with fail;go_region_held3 (fun wx=>wx.cell? ⟨fb,4,none⟩=some (.slice va L vc)/\wx.cell? ⟨fb,2,none⟩=some (.int .i64 n)) (first|exact⟨d4,d2⟩|exact k0) (first|(go_at_call 299;(with_reducible refine(C1.out _ qh).mono ?_);rintro e w2 ⟨v2,rfl,i,j⟩;obtain⟨ae,ab,rfl⟩:=bZ i;have k0:w2.cell? ⟨fb,4,none⟩=some (.slice va L vc)/\w2.cell? ⟨fb,2,none⟩=some (.int .i64 n):=⟨(H.out.drew.blk.step j).cell 4,(H.out.drew.blk.step j).cell 2⟩));have F2:=hid (⟨H.out.drew.blk.step j,H.out.drew.cur.step j,H.out.lo⟩:Fr w2 fb g base bs A c at_ er way n p (.slice va L vc));have M:Hid (Below w w w2):=(Ag _ _).drew.trans j;clear j k0 d0 d1 d2 d4 C1 H;have d2:w2.cell? ⟨fb,2,none⟩=some (.int .i64 n):=F2.out.blk.cell 2;have y:=Nz i;generalize ts.length=tl at *;go_wp2_with fail;refine(C2.out _ _ _ y).mono ?_;rintro e w3 ⟨v3,rfl,z,G⟩;obtain⟨ag,af,rfl⟩:=bZ z;have F3:=hid (⟨F2.out.blk.step G,F2.out.cur.step G,F2.out.lo⟩:Fr w3 fb g base bs A c at_ er way n p (.slice va L vc));have Z:Hid (Below w w w3):=M.out.trans (G.mono M.out.size);clear G y i C2 F2 d2;have d2:w3.cell? ⟨fb,2,none⟩=some (.int .i64 n):=F3.out.blk.cell 2;have aj:=hid (kZ z (show base<=_ by have:=M.out.size;omega));clear z;generalize ah:out.length=ol at *;have ak:=hid ah;clear ah;go_wp2_with fail;go_ret2;exact⟨_,rfl,by rw[ak.out];exact aj.out,Z.out⟩
   ·rw[Ae aa]at hE;have J:byO way n p body= []:=(by rw[hO,hE,Ae aa]);rw[hE,J];have g5:(e2 != 0)=true:=(by simpa using aa);clear aa;have H:=hid h;have hL:body.length=body.length:=rfl;clear h8 hE hO J E hw hL h;generalize N:body.length=L at *;clear N d3;go_enter func250,ntmps250;go_upto_region 5 with fail;go_region_held3 (fun wx=>wx.cell? ⟨fb,4,none⟩=some (.slice va L vc)/\wx.cell? ⟨fb,2,none⟩=some (.int .i64 n)) (first|exact⟨d4,d2⟩|exact k0) (first|(go_at_call 299;(with_reducible refine(C1.out _ qh).mono ?_);rintro e w2 ⟨v2,rfl,i,j⟩;obtain⟨ae,ab,rfl⟩:=bZ i;have k0:w2.cell? ⟨fb,4,none⟩=some (.slice va L vc)/\w2.cell? ⟨fb,2,none⟩=some (.int .i64 n):=⟨(H.out.drew.blk.step j).cell 4,(H.out.drew.blk.step j).cell 2⟩));have F2:=hid (⟨H.out.drew.blk.step j,H.out.drew.cur.step j,H.out.lo⟩:Fr w2 fb g base bs A c at_ er way n p (.slice va L vc));have M:Hid (Below w w w2):=(Ag _ _).drew.trans j;clear j k0 d0 d1 d2 d4 C1 H;have d2:w2.cell? ⟨fb,2,none⟩=some (.int .i64 n):=F2.out.blk.cell 2;have y:=Nz i;generalize ts.length=tl at *;go_wp2_with fail;refine(C2.out _ _ _ y).mono ?_;rintro e w3 ⟨v3,rfl,z,G⟩;obtain⟨ag,af,rfl⟩:=bZ z;have F3:=hid (⟨F2.out.blk.step G,F2.out.cur.step G,F2.out.lo⟩:Fr w3 fb g base bs A c at_ er way n p (.slice va L vc));have Z:Hid (Below w w w3):=M.out.trans (G.mono M.out.size);clear G y i C2 F2 d2;clear z;generalize out.length=ol at *;go_wp2_with fail;go_ret2;exact⟨_,rfl,AK _ _ _ _,Z.out⟩
  ·rw[Ae Y]at hE;have J:byO way n p body= []:=(by rw[hO,hE,Ae Y]);rw[hE,J];have g1:(e1 != 0)=true:=(by simpa using Y);clear Y U Q;have H:=hid h;have hL:body.length=body.length:=rfl;clear h8 hE hO J E hw hL h;generalize N:body.length=L at *;clear N d3;go_enter func250,ntmps250;go_upto_region 5 with fail;go_region_held3 (fun wx=>wx.cell? ⟨fb,4,none⟩=some (.slice va L vc)/\wx.cell? ⟨fb,2,none⟩=some (.int .i64 n)) (first|exact⟨d4,d2⟩|exact k0) (first|(go_at_call 299;(with_reducible refine(C1.out _ qh).mono ?_);rintro e w2 ⟨v2,rfl,i,j⟩;obtain⟨ae,ab,rfl⟩:=bZ i;have k0:w2.cell? ⟨fb,4,none⟩=some (.slice va L vc)/\w2.cell? ⟨fb,2,none⟩=some (.int .i64 n):=⟨(H.out.drew.blk.step j).cell 4,(H.out.drew.blk.step j).cell 2⟩));have F2:=hid (⟨H.out.drew.blk.step j,H.out.drew.cur.step j,H.out.lo⟩:Fr w2 fb g base bs A c at_ er way n p (.slice va L vc));have M:Hid (Below w w w2):=(Ag _ _).drew.trans j;clear j k0 d0 d1 d2 d4 C1 H;clear i;go_wp2_with fail;go_ret2;exact⟨_,rfl,AK _ _ _ _,M.out⟩
end Block
namespace Block
open Go.RowKit Mem Own Canon
open Nums Crc
open Toks (Tk A0)
theorem UO(most:Int):∀ (ts:List Tk) (out:List Nat),(out.length:Int)<=most->((Lz.ES most out ts).1.length:Int)<=most
 | [],out,h=>h
 |t :: ts,out,h=>by
  rw[Lz.ES];split
  ·rename_i he;refine UO most ts _ ?_;unfold Lz.G0 at he;split at he
   ·split at he
    ·omega
    ·split at he
     ·omega
     ·split
      ·rw[Aj];simp;omega
      ·rw[Lz.LH];omega
   ·omega
  ·simp;omega
theorem W4(ts:List Tk)(n:Nat):(Lz.Fy ts n).1.length<=n:=by
 unfold Lz.Fy;split
 ·simp
 ·have:=UO n ts [] pI;omega
theorem Rj(bs:List Nat):(CQ bs).length<=bs.length:=by
 unfold CQ Bx;split
 ·simp
 ·split
  ·simp
  ·simp;omega
theorem OC{bs:List Nat}(h8:∀x∈bs,x<=255):(opO bs).length<=max 32768 bs.length:=by
 have h1:=Rj bs;have h2:=W4 (Huff.Cp (CQ bs) (hN bs)).1 (hN bs);have h3:=Od h8;unfold opO byO;split
 ·simp
 ·split
  ·simp
  ·split<;>omega
def Pn(bs:List Nat)(w:World)(e:Ending)(w':World):Prop:=
 ∃v1 v2,e= .returned (.tuple #[v1,v2, .int .i64 (opE bs)])/\Below w w w'/\(opE bs=0->hE8 bs=0/\∃fb g A c bv va vc,v1= .pointer (some ⟨fb,0,none⟩)/\v2= .slice va (opO bs).length vc/\Fr w' fb g w bs A c (hA5 bs) 0 (D9 bs) (hN bs) (hP bs) bv/\w'.ownsRow w 5 1 v2 (opO bs).length (cZ .u8 (opO bs)))
theorem WF(w:World)(bs:List Nat)(X:Option Addr)(d:Nat)(M:bs.length<=100000)(hd:bs.length<=d)(hX:X=none->bs.length=0/\d=0)(U:0<bs.length->∀a,X=some a->a.add 0=a/\a.block<w.heap.size)(h8:∀x∈bs,x<=255)(ht:TabAt w)(hx:Row w w X bs.length 1 (jZ .u8 bs)):
 Calls prog 200 #[.slice X bs.length d] w (Pn bs w):=by
 have C1:=hid (Nums.new_any w X bs.length d bs rfl M hX hx);have C2:Hid (∀wx fb g B e (h:Fr wx fb g w bs B e 0 0 0 0 0 (.slice none 0 0)),Calls prog 248 #[.pointer (some ⟨fb,0,none⟩)] wx fun e' w'=>e'= .returned (.tuple #[])/\Fr w' fb g w bs B e (hA3 bs) (hE5 bs) (D9 bs) (hN bs) (hP bs) (.slice none 0 0)/\Kept (Rest fb g wx) wx w'):=fun wx fb g B e h=>XF wx fb g w bs B e _ M h8 h;have C3:Hid (∀wx fb g B e (hb:Below w w wx) (h:Fr wx fb g w bs B e (hA3 bs) (hE5 bs) (D9 bs) (hN bs) (hP bs) (.slice none 0 0)),Calls prog 249 #[.pointer (some ⟨fb,0,none⟩), .slice X bs.length d] wx fun e' w'=>e'= .returned (.tuple #[])/\∃v,w'.ownsRow w 5 1 v (CQ bs).length (cZ .u8 (CQ bs))/\Fr w' fb g w bs B e (hA5 bs) (hE8 bs) (D9 bs) (hN bs) (hP bs) v/\Kept (Rest fb g wx) wx w'):=fun wx fb g B e hb h=>Block.rest_any wx fb g w bs B e _ _ _ X d M hd h8 rfl (ht.below hb ht.lt) ((hx.below hb).mono hb.size) (fun h0 a ha=>(U h0 a ha).1) (fun h0 a ha=>by have:=(U h0 a ha).2;have:=h.cur.lo;have:=h.lo;omega) (by have:=ht.lt;have:=h.cur.lo;have:=h.lo;omega) hb.size h;have C4:Hid (∀wx g B e a er (h:Cur wx g w bs B e a er),Calls prog 113 #[.pointer (some ⟨g,0,none⟩)] wx fun e' w'=>e'= .returned (.int .i64 er)/\w'=wx):=fun wx g B e a er h=>Dv wx g w bs B e a er h;have aw:=Rj bs;have af:∀x∈CQ bs,x<=255:=fun x hx=>h8 x (U0 hx);have C5:Hid (∀wx fb g B e a er va vc (hb:w.heap.size<=wx.heap.size) (ho:wx.ownsRow w 5 1 (.slice va (CQ bs).length vc) (CQ bs).length (cZ .u8 (CQ bs))) (h:Fr wx fb g w bs B e a er (D9 bs) (hN bs) (hP bs) (.slice va (CQ bs).length vc)),Calls prog 250 #[.pointer (some ⟨fb,0,none⟩)] wx (BytesPost w (D9 bs) (hN bs) (hP bs) (CQ bs) wx)):=fun wx fb g B e a er va vc hb ho h=>bytes_any wx fb g w bs B e a er _ _ _ va vc _ (Od h8) (N6 h8) mz af hb ho h;unfold BytesPost at C5;have aa:(hE8 bs≠0->opE bs=hE8 bs)/\(hE8 bs=0->opE bs=byE (D9 bs) (hN bs) (hP bs) (CQ bs)):=⟨fun h=>Ae h,fun h=>Ab (by rw[h];simp)⟩;have ab:opE bs=0->opO bs=byO (D9 bs) (hN bs) (hP bs) (CQ bs):=fun h=>Ab (by rw[h];simp);have ai:=hid aa;have aj:=hid ab;clear ht hx hX U h8 af aa ab;unfold Pn;go_enter func200,ntmps200;go_wp2_with fail;refine C1.out.mono ?_;rintro e w1 ⟨g,B,dd,rfl,G,Q⟩;have ak:=Q.size;have am:=G.blk.lt
 have HF:Hid (Fr (w1.alloc (.cells #[.pointer (some ⟨g,0,none⟩),ij,ij,ij,()] 262)) w1 g w bs B dd 0 0 0 0 0 (.slice none 0 0)):=
  ⟨Blk.made _ _ _,G.step (aZ (Ag _ _)),ak⟩
 have HB:Hid (Below w w (w1.alloc (.cells #[.pointer (some ⟨g,0,none⟩),ij,ij,ij,()] 262))):=mZ ak Q;have hg:w.heap.size<=g:=G.lo;go_upto_region 2 with fail;generalize w1.alloc (.cells #[.pointer (some ⟨g,0,none⟩),ij,ij,ij,()] 262)=w2 at *;generalize w1.heap.size=fb at *;clear G Q am C1;go_wp2_with fail;refine(C2.out _ _ _ _ _ HF.out).mono ?_;rintro e w3 ⟨rfl,Y,ac⟩;have J:Hid (Below w w w3):=HB.out.trans (ac.below (fun x hx=>⟨by have:=HB.out.size;omega,mz,mz⟩));have F3:=hid Y;clear Y ac HF HB C2;go_wp2_with fail;refine(C3.out _ _ _ _ _ J.out F3.out).mono ?_;rintro e w4 ⟨rfl,v4,j,N,ag⟩;obtain⟨Z,ah,rfl⟩:=bZ j;have z:Hid (Below w w w4):=J.out.trans (ag.below (fun x hx=>⟨by have:=J.out.size;omega,mz,mz⟩));have F4:=hid N;have ae:=hid j;have d0:=N.ptr;clear N ag j F3 J C3;go_wp2_with fail;refine(C4.out _ _ _ _ _ _ F4.out.cur).mono ?_;rintro e w5 ⟨rfl,rfl⟩;by_cases i:hE8 bs=0
 ·have hE:=ai.out.2 i;have F5:Hid (Fr w5 fb g w bs B dd (hA5 bs) 0 (D9 bs) (hN bs) (hP bs) (.slice Z (CQ bs).length ah)):=by rw[<-i];exact F4.out
  rw[i];have an:=hid i;have HE:=hid hE;clear i hE F4;go_wp2_with fail;refine(C5.out _ _ _ _ _ _ _ _ _ z.out.size ae.out F5.out).mono ?_;rintro e w6 ⟨v6,rfl,y,E⟩;obtain⟨ar,al,rfl⟩:=bZ y;have au:Hid (Below w w w6):=z.out.trans (E.mono z.out.size);have F6:Hid (Fr w6 fb g w bs B dd (hA5 bs) 0 (D9 bs) (hN bs) (hP bs) (.slice Z (CQ bs).length ah)):=⟨F5.out.blk.step E,F5.out.cur.step E,F5.out.lo⟩;have av:=hid y;clear y E F5 z ae d0 C4 C5;go_wp2_with fail
  go_ret3
  refine⟨_,_,by rw[HE.out];rfl,au.out,fun h0=>⟨an.out,fb,g,B,dd,_,ar,al,rfl,?_,F6.out,?_⟩⟩
  ·rw[aj.out h0];rfl
  ·rw[aj.out h0];exact av.out
 ·have hE:=ai.out.1 i;have g1:(hE8 bs != 0)=true:=by simpa using i
  have HE:=hid hE;have aq:=hid i;clear i hE;go_wp2_with fail
  go_ret3
  exact⟨_,_,by rw[HE.out];rfl,z.out,fun h0=>absurd (HE.out.symm.trans h0) aq.out⟩
def L2(bs:List Nat)(w:World)(e:Ending)(w':World):Prop:=
 ∃v,e= .returned (.tuple #[v, .int .i64 (opA bs), .int .i64 (opE bs)])/\w'.ownsRow w 5 1 v (opO bs).length (cZ .u8 (opO bs))/\Below w w w'
theorem RQ(w:World)(bs:List Nat)(X:Option Addr)(n d:Nat)(hn:bs.length=n)(Q:n<=100000)(hd:n<=d)(hX:X=none->n=0/\d=0)(E:0<bs.length->∀a,X=some a->a.add 0=a/\a.block<w.heap.size)(h8:∀x∈bs,x<=255)(ht:TabAt w)(hx:Row w w X n 1 (jZ .u8 bs)):
 Calls prog 122 #[.slice X n d] w (L2 bs w):=by
 subst hn;have C1:=hid (WF w bs X d Q hd hX E h8 ht hx);unfold Pn at C1;have N:=OC h8;unfold L2;by_cases he:opE bs=0
 ·rw[he]at C1 ⊢;have hA:opA bs=hA5 bs:=Ab (by rw[he];simp);rw[hA];clear ht hx hX E h8 hA he hd;generalize opO bs=out at *;generalize hA5 bs=a5 at *;go_enter func122,ntmps122;go_wp2_with fail;refine C1.out.mono ?_;rintro e w1 ⟨v1,v2,rfl,j,i⟩;obtain⟨_,fb,g,B,dd,bv,va,vc,rfl,rfl,hf,h⟩:=i (by first|trivial|rfl);have J:=Jl h;have y:=own_row h;have D1:Hid (∀wx,Below w1 w1 wx->Calls prog 100 #[.slice va out.length vc] wx fun e' w'=>∃v,e'= .returned v/\w'.ownsRow wx 5 1 v out.length (cZ .u8 out)/\Below wx wx w'):=fun wx hb=>If wx va _ vc _ rfl mz J ((y.below hb).mono hb.size);have D2:Hid (∀wx,Below w1 w1 wx->Calls prog 195 #[.pointer (some ⟨g,0,none⟩)] wx fun e' w'=>e'= .returned (.int .i64 (a5:Nat))/\w'=wx):=fun wx hb=>Kd wx g w bs B dd _ 0 (hf.cur.step hb);have d0:w1.cell? ⟨fb,0,none⟩=some (.pointer (some ⟨g,0,none⟩)):=hf.ptr;have KP:Hid (∀wx,Below w1 w1 wx->wx.cell? ⟨fb,0,none⟩=some (.pointer (some ⟨g,0,none⟩))):=fun wx hb=>(hb.cell (p:=⟨fb,0,none⟩) hf.blk.lt).trans hf.ptr;have z:=hid j;clear j hf h J y C1 i;generalize M:out.length=ol at *;have U:=hid M;clear M;go_upto_region 4 with fail;have b0:Below w1 w1 w1.drew:=(Ag _ _).drew;go_region_held3 (fun wx=>wx.cell? ⟨fb,0,none⟩=some (.pointer (some ⟨g,0,none⟩))) (first|exact d0|exact KP.out _ im) (first|(go_at_call 100;(with_reducible refine(D1.out _ im).mono ?_);rintro e' w' ⟨v,rfl,h,hb⟩;have bN:Below w1 w1 w':=uZ im (Below.size im) im)|(go_at_call 195;(with_reducible refine(D2.out _ im).mono ?_);rintro e' w' ⟨rfl,rfl⟩));have hz:=z.out.size;have Y:Hid (Below w w w'):=z.out.trans (bN.mono hz);have G:Hid (w'.ownsRow w 5 1 v ol (cZ .u8 out)):=kZ h (show w.heap.size<=w1.heap.size from hz);obtain⟨aa,Z,rfl⟩:=bZ G.out;clear h hb bN b0 D1 D2 KP z d0;go_wp2_with fail
  go_ret3
  exact⟨_,rfl,by rw[U.out];exact G.out,Y.out⟩
 ·have hO:opO bs= []:=Ae he;have hA:opA bs=0:=Ae he;rw[hO,hA];have g1:(opE bs != 0)=true:=by simpa using he
  generalize opE bs=er at *;clear ht hx hX E h8 hO hA N hd he;go_enter func122,ntmps122;go_wp2_with fail;refine C1.out.mono ?_;rintro e w1 ⟨v1,v2,rfl,j,i⟩;clear i C1;go_wp2_with fail
  go_ret3
  exact⟨_,rfl,AK _ _ _ _,j⟩
end Block
end Go.Proofs.YtfgdoknipbpfhaaGreatDoor

/- Plain: a frame, as i -/
import Derived.Test.YtbgoibedicbkjaaGreatDoorZBodyLogs17
import Derived.Test.YtbgoibedicbkjaaGreatDoorZBodyLogs34
namespace Go.Proofs.YtbgoibedicbkjaaGreatDoor
open Go.Lib (hid)
set_option maxHeartbeats 1000000
set_option maxRecDepth 100000
namespace Block
open Nums Crc
open Go.Proofs.YtbgoibedicbkjaaGreatDoor.Huff (BD)
def BR(bs:List Nat):Nat:=EF bs 0 0
def hA1(bs:List Nat):Nat:=takeA bs 0 0 1
def hE1(bs:List Nat):Int:=Be bs 0 0 1
def hE2(bs:List Nat):Int:=if 1<BR bs then Dv (hE1 bs) 2 else hE1 bs
def hN(bs:List Nat):Nat:=xZ 32768 bs (hA1 bs) (hE2 bs)
def hA2(bs:List Nat):Nat:=mZ 32768 bs (hA1 bs) (hE2 bs)
def hE3(bs:List Nat):Int:=oZ 32768 bs (hA1 bs) (hE2 bs)
def hP(bs:List Nat):Nat:=xZ 32768 bs (hA2 bs) (hE3 bs)
def hA3(bs:List Nat):Nat:=mZ 32768 bs (hA2 bs) (hE3 bs)
def hE4(bs:List Nat):Int:=oZ 32768 bs (hA2 bs) (hE3 bs)
def hE5(bs:List Nat):Int:=if 1032*hP bs+64<hN bs then Dv (hE4 bs) 6 else hE4 bs
def Bp(bs:List Nat):List Nat:=AW bs (hA3 bs) (hE5 bs) (hP bs)
def hA4(bs:List Nat):Nat:=takeA bs (hA3 bs) (hE5 bs) (hP bs)
def hE6(bs:List Nat):Int:=Be bs (hA3 bs) (hE5 bs) (hP bs)
def hA5(bs:List Nat):Nat:=takeA bs (hA4 bs) (hE6 bs) 4
def hE7(bs:List Nat):Int:=Be bs (hA4 bs) (hE6 bs) 4
def hE8(bs:List Nat):Int:=if hE7 bs≠0 then hE7 bs else BS (bs.take (hA5 bs))
def byE(way n p:Nat)(body:List Nat):Int:=
 if way=0 then if n≠p then 2 else 0
 else if(BD body n).2≠0 then(BD body n).2
 else if(Lz.El (BD body n).1 n).2≠0 then(Lz.El (BD body n).1 n).2
 else if(Lz.El (BD body n).1 n).1.length<n then 2 else 0
def byO(way n p:Nat)(body:List Nat):List Nat:=if byE way n p body≠0 then []else if way=0 then body else(Lz.El (BD body n).1 n).1
def opE(bs:List Nat):Int:=if hE8 bs≠0 then hE8 bs else byE (BR bs) (hN bs) (hP bs) (Bp bs)
def opO(bs:List Nat):List Nat:=if opE bs≠0 then []else byO (BR bs) (hN bs) (hP bs) (Bp bs)
def opA(bs:List Nat):Nat:=if opE bs≠0 then 0 else hA5 bs
theorem U8{bs:List Nat}(h8:∀x∈bs,x<=255)(at_:Nat)(er:Int):EF bs at_ er<=255:=by
 unfold EF;split
 ·omega
 ·by_cases h:at_<bs.length
  ·rw[Ar,AD h];exact h8 _ (Hr h)
  ·rw[Ar,Gr (by omega)];show 0<=255;omega
theorem OW{bs:List Nat}(h8:∀x∈bs,x<=255)(most at_:Nat)(er:Int):xZ most bs at_ er<=most:=by
 unfold xZ;split
 ·omega
 ·exact(EZ most (bs.drop at_) (fun x hx=>h8 x (Bb hx))).1
theorem intA_le{bs:List Nat}(h8:∀x∈bs,x<=255)(most at_:Nat)(er:Int)(h:at_<=bs.length):mZ most bs at_ er<=bs.length:=by
 unfold mZ;split
 ·exact h
 ·have:=(EZ most (bs.drop at_) (fun x hx=>h8 x (Bb hx))).2.1;rw[AQ]at this;omega
theorem UN(bs:List Nat):hA1 bs<=bs.length:=La bs 0 0 1 (AY _)
section
variable {bs:List Nat} (h8:∀x∈bs,x<=255)
include h8
theorem Uv:hA2 bs<=bs.length:=intA_le h8 _ _ _ (UN bs)
theorem OJ:hA3 bs<=bs.length:=intA_le h8 _ _ _ (Uv h8)
theorem Oy:hA4 bs<=bs.length:=La bs _ _ _ (OJ h8)
theorem Oi:hA5 bs<=bs.length:=La bs _ _ _ (Oy h8)
theorem JY:hN bs<=32768:=OW h8 _ _ _
theorem JW:hP bs<=32768:=OW h8 _ _ _
theorem Rp:BR bs<=255:=U8 h8 _ _
end
theorem Md{bs:List Nat}{at_ n:Nat}{er:Int}{x:Nat}(h:x∈AW bs at_ er n):x∈bs:=by
 unfold AW at h;split at h
 ·cases h
 ·split at h
  ·cases h
  ·exact Bb (BV h)
end Block
namespace Block
open Go.RowKit Mem Own Canon
open Nums Crc
structure Fr (w:World) (fb g base:Nat) (bs:List Nat) (A:Option Addr) (c at_:Nat) (er:Int) (way n p:Nat) (bv:Value):Prop where
 blk:Blk w fb 230 #[.pointer (some ⟨g,0,none⟩), .int .i64 way, .int .i64 n, .int .i64 p,bv]
 cur:Cur w g base bs A c at_ er
 lo:base<=fb
section
variable {w w':World} {fb g base:Nat} {bs:List Nat} {A:Option Addr} {c at_:Nat} {er:Int} {way n p:Nat} {bv:Value}
theorem Fr.ne(h:Fr w fb g base bs A c at_ er way n p bv):fb≠g:=Blk.apart h.blk h.cur.blk (by decide)
theorem Fr.drew(h:Fr w fb g base bs A c at_ er way n p bv):Fr w.drew fb g base bs A c at_ er way n p bv:=⟨h.blk,h.cur.drew,h.lo⟩
theorem Fr.drewN(h:Fr w fb g base bs A c at_ er way n p bv)(q:Nat):Fr (w.drewN q) fb g base bs A c at_ er way n p bv:=⟨h.blk,h.cur.drewN q,h.lo⟩
theorem Fr.ptr(h:Fr w fb g base bs A c at_ er way n p bv):w.cell? ⟨fb,0,none⟩=some (.pointer (some ⟨g,0,none⟩)):=h.blk.cell 0
theorem cur_far{u:Value}{i:Nat}(h:Cur w g base bs A c at_ er){cs:Array Value}(hb:Blk w fb 230 cs):Cur (w.setCell ⟨fb,i,none⟩ u) g base bs A c at_ er:=
 ⟨h.blk.far (fun e=>Blk.apart hb h.blk (by decide) e.symm) _,wZ h.own (fZ h.own hb (by decide)) _,h.le,h.lo⟩
theorem Fr.on{i:Nat}{j:Int}(h:Fr w fb g base bs A c at_ er way n p bv)(hc:Cur w' g base bs A c i j)(hk:Kept (uZ g w) w w'):Fr w' fb g base bs A c i j way n p bv:=
 ⟨(hk.block fb ⟨h.blk.lt,h.ne⟩).trans h.blk,hc,h.lo⟩
theorem Fr.fail{i:Nat}{j:Int}(h:Fr w fb g base bs A c at_ er way n p bv)(hc:Cur w' g base bs A c i j)(hk:Kept (fun x=>x≠g) w w'):Fr w' fb g base bs A c i j way n p bv:=
 ⟨(hk.block fb h.ne).trans h.blk,hc,h.lo⟩
theorem Fr.setWay(h:Fr w fb g base bs A c at_ er way n p bv)(x:Nat):Fr (w.setCell ⟨fb,1,none⟩ (.int .i64 x)) fb g base bs A c at_ er x n p bv:=⟨h.blk.set 1 _,cur_far h.cur h.blk,h.lo⟩
theorem Fr.setN(h:Fr w fb g base bs A c at_ er way n p bv)(x:Nat):Fr (w.setCell ⟨fb,2,none⟩ (.int .i64 x)) fb g base bs A c at_ er way x p bv:=⟨h.blk.set 2 _,cur_far h.cur h.blk,h.lo⟩
theorem Fr.setP(h:Fr w fb g base bs A c at_ er way n p bv)(x:Nat):Fr (w.setCell ⟨fb,3,none⟩ (.int .i64 x)) fb g base bs A c at_ er way n x bv:=⟨h.blk.set 3 _,cur_far h.cur h.blk,h.lo⟩
theorem Fr.setB(h:Fr w fb g base bs A c at_ er way n p bv)(x:Value):Fr (w.setCell ⟨fb,4,none⟩ x) fb g base bs A c at_ er way n p x:=⟨h.blk.set 4 _,cur_far h.cur h.blk,h.lo⟩
end
def Rest(fb g:Nat)(w:World)(x:Nat):Prop:=x<w.heap.size/\x≠g/\x≠fb
theorem H4{fb g:Nat}{w w1 w2:World}(h:Kept (Rest fb g w) w w1)(k:Kept (uZ g w1) w1 w2):Kept (Rest fb g w) w w2:=
 h.trans ⟨k.os,k.tape,k.output,k.size,fun x hx=>k.block x ⟨by have:=hx.1;have:=h.size;omega,hx.2.1⟩⟩
theorem LC{fb g:Nat}{w w1 w2:World}(h:Kept (Rest fb g w) w w1)(k:Kept (fun x=>x≠g) w1 w2):Kept (Rest fb g w) w w2:=
 h.trans ⟨k.os,k.tape,k.output,k.size,fun x hx=>k.block x hx.2.1⟩
theorem IG{fb g i:Nat}{w w1:World}{u:Value}(h:Kept (Rest fb g w) w w1):Kept (Rest fb g w) w (w1.setCell ⟨fb,i,none⟩ u):=h.set (fun h=>h.2.2 rfl) _
theorem Xw(w:World)(fb g base:Nat)(bs:List Nat)(A:Option Addr)(c:Nat)(bv:Value)(Y:bs.length<=100000)(h8:∀x∈bs,x<=255)(h:Fr w fb g base bs A c 0 0 0 0 0 bv):
 Calls Tryz.prog 210 #[.pointer (some ⟨fb,0,none⟩)] w fun e w'=>e= .returned (.tuple #[])/\Fr w' fb g base bs A c (hA3 bs) (hE5 bs) (BR bs) (hN bs) (hP bs) bv/\Kept (Rest fb g w) w w':=by
 have C1:Hid (∀wx,Cur wx g base bs A c 0 0->Calls Tryz.prog 87 #[.pointer (some ⟨g,0,none⟩)] wx fun e w'=>e= .returned (.int .u8 (BR bs:Nat))/\Cur w' g base bs A c (hA1 bs) (hE1 bs)/\Kept (uZ g wx) wx w'):=fun wx hc=>St wx g base bs A c 0 0 Y hc;have C2:Hid (1<BR bs->∀wx,Cur wx g base bs A c (hA1 bs) (hE1 bs)->Calls Tryz.prog 88 #[.pointer (some ⟨g,0,none⟩), .int .i64 2] wx fun e w'=>e= .returned (.tuple #[])/\Cur w' g base bs A c (hA1 bs) (hE2 bs)/\Kept (fun x=>x≠g) wx w'):=fun h1 wx hc=>by rw[show hE2 bs=Dv (hE1 bs) 2 from Ab h1];exact FT wx g base bs A c _ _ 2 hc
 have U:Hid (¬1<BR bs->hE2 bs=hE1 bs):=fun h1=>Aa h1;have C3:Hid (∀wx,Cur wx g base bs A c (hA1 bs) (hE2 bs)->Calls Tryz.prog 86 #[.pointer (some ⟨g,0,none⟩), .int .i64 32768] wx fun e w'=>e= .returned (.int .i64 (hN bs:Nat))/\Cur w' g base bs A c (hA2 bs) (hE3 bs)/\Kept (uZ g wx) wx w'):=fun wx hc=>Hi wx g base bs A c _ _ 32768 Y h8 (by omega) hc;have C4:Hid (∀wx,Cur wx g base bs A c (hA2 bs) (hE3 bs)->Calls Tryz.prog 86 #[.pointer (some ⟨g,0,none⟩), .int .i64 32768] wx fun e w'=>e= .returned (.int .i64 (hP bs:Nat))/\Cur w' g base bs A c (hA3 bs) (hE4 bs)/\Kept (uZ g wx) wx w'):=fun wx hc=>Hi wx g base bs A c _ _ 32768 Y h8 (by omega) hc;have C5:Hid (1032*hP bs+64<hN bs->∀wx,Cur wx g base bs A c (hA3 bs) (hE4 bs)->Calls Tryz.prog 88 #[.pointer (some ⟨g,0,none⟩), .int .i64 6] wx fun e w'=>e= .returned (.tuple #[])/\Cur w' g base bs A c (hA3 bs) (hE5 bs)/\Kept (fun x=>x≠g) wx w'):=fun h1 wx hc=>by rw[show hE5 bs=Dv (hE4 bs) 6 from Ab h1];exact FT wx g base bs A c _ _ 6 hc
 have L:Hid (¬1032*hP bs+64<hN bs->hE5 bs=hE4 bs):=fun h1=>Aa h1;have ae:=Rp h8;have ac:=JY h8;have af:=JW h8;generalize BR bs=wy at *;generalize hN bs=n at *;generalize hP bs=p at *;generalize hA1 bs=a1 at *;generalize hA2 bs=a2 at *;generalize hA3 bs=a3 at *;generalize hE1 bs=e1 at *;generalize hE2 bs=e2 at *;generalize hE3 bs=e3 at *;generalize hE4 bs=e4 at *;generalize hE5 bs=e5 at *;have d0:=h.ptr;have H:=hid h;have s1:IntKind.i64.wrap (wy:Int)=(wy:Int):=by rw[Ak _ (by omega)]
 have s2:IntKind.i64.wrap (1032*(p:Int))=1032*(p:Int):=by rw[Ak _ (by omega)]
 have s3:IntKind.i64.wrap (1032*(p:Int)+64)=1032*(p:Int)+64:=by rw[Ak _ (by omega)]
 clear h h8;go_enter Tryz.func210,Tryz.ntmps210;go_wp2_with fail;refine(C1.out _ H.out.cur).mono ?_;rintro e w1 ⟨rfl,Z,N⟩;have F1:=H.out.on Z N;have K1:Hid (Kept (Rest fb g w) w w1):=H4 (Kept.refl _ _) N;have f1:=F1.blk.frozen 1;have q1:=F1.blk.cell 1;simp only[List.getElem?_toArray,List.getElem?_cons_zero,List.getElem?_cons_succ]at q1;have F2:=hid (F1.setWay wy);have K2:Hid (Kept (Rest fb g w) w (w1.setCell ⟨fb,1,none⟩ (.int .i64 wy))):=IG K1.out;have d0:=F1.ptr;clear F1 Z N K1 H C1;go_upto_region 1 with fail;generalize w1.setCell ⟨fb,1,none⟩ (.int .i64 wy)=w2 at *;clear d0 f1 q1;have d0:=F2.out.ptr;have d1:=F2.out.blk.cell 1;simp only[List.getElem?_toArray,List.getElem?_cons_zero,List.getElem?_cons_succ]at d1;by_cases M:1<wy
 ·have g1:decide ((1:Int)<(wy:Int))=true:=by simp;omega
  have ab:decide (1<wy)=true:=by simp;omega
  go_wp2_with fail;refine(C2.out M _ F2.out.cur).mono ?_;rintro e w3 ⟨rfl,aa,Q⟩;have F3:=hid (F2.out.fail aa Q);have K3:Hid (Kept (Rest fb g w) w w3):=LC K2.out Q;clear aa Q F2 K2 d0 d1 C2 U M g1 ab;have d0:=F3.out.ptr;go_wp2_with fail;refine(C3.out _ F3.out.cur).mono ?_;rintro e w4 ⟨rfl,G,j⟩;have F4:=F3.out.on G j;have K4:Hid (Kept (Rest fb g w) w w4):=H4 K3.out j;have f2:=F4.blk.frozen 2;have q2:=F4.blk.cell 2;simp only[List.getElem?_toArray,List.getElem?_cons_zero,List.getElem?_cons_succ]at q2;have F5:=hid (F4.setN n);have K5:Hid (Kept (Rest fb g w) w (w4.setCell ⟨fb,2,none⟩ (.int .i64 n))):=IG K4.out;clear G j F3 K3 K4 C3 d0 F4;go_upto_region 4 with fail;generalize w4.setCell ⟨fb,2,none⟩ (.int .i64 n)=w5 at *;clear f2 q2;have d0:=F5.out.ptr;go_wp2_with fail;refine(C4.out _ F5.out.cur).mono ?_;rintro e w6 ⟨rfl,J,y⟩;have F6:=F5.out.on J y;have K6:Hid (Kept (Rest fb g w) w w6):=H4 K5.out y;have f3:=F6.blk.frozen 3;have q3:=F6.blk.cell 3;simp only[List.getElem?_toArray,List.getElem?_cons_zero,List.getElem?_cons_succ]at q3;have F7:=hid (F6.setP p);have K7:Hid (Kept (Rest fb g w) w (w6.setCell ⟨fb,3,none⟩ (.int .i64 p))):=IG K6.out;clear J y F5 K5 K6 C4 d0 F6;go_upto_region 5 with fail;generalize w6.setCell ⟨fb,3,none⟩ (.int .i64 p)=w7 at *;clear f3 q3;have d0:=F7.out.ptr;have d2:=F7.out.blk.cell 2;have d3:=F7.out.blk.cell 3;simp only[List.getElem?_toArray,List.getElem?_cons_zero,List.getElem?_cons_succ]at d2 d3;by_cases i:1032*p+64<n
  ·have g4:decide (1032*(p:Int)+64<(n:Int))=true:=(by simp;omega);have g5:decide (1032*p+64<n)=true:=(by simp;omega);go_quiet (fail);have F8:=hid (F7.out.drewN nq);go_wp2_with fail;refine(C5.out i _ F8.out.cur).mono ?_;rintro e w8 ⟨rfl,E,z⟩;have F9:=hid (F8.out.fail E z);have K9:Hid (Kept (Rest fb g w) w w8):=LC (K7.out.drewN nq) z;clear E z F8 F7 K7 C5 L d0 d2 d3;go_wp2_with fail;refine bodyPost_end (Ds rfl _ _ _) rfl ?_;exact⟨rfl,F9.out,K9.out⟩
  ·have g4:decide (1032*(p:Int)+64<(n:Int))=false:=(by simp;omega);have g5:decide (1032*p+64<n)=false:=(by simp;omega);have F8:Hid (Fr w7 fb g base bs A c a3 e5 wy n p bv):=(by rw[L.out i];exact F7.out);go_quiet (fail);go_wp2_with fail;refine bodyPost_end (Ds rfl _ _ _) rfl ?_;exact⟨rfl,F8.out.drewN _,K7.out.drewN _⟩
 ·have g1:decide ((1:Int)<(wy:Int))=false:=by simp;omega
  have ab:decide (1<wy)=false:=by simp;omega
  have F3:Hid (Fr w2 fb g base bs A c a1 e2 wy 0 0 bv):=by rw[U.out M];exact F2.out
  have K3:=K2;obtain⟨w3,rfl⟩:∃w3:World,w3=w2:=⟨_,rfl⟩;clear F2 K2 C2 U M;go_wp2_with fail;refine(C3.out _ F3.out.cur).mono ?_;rintro e w4 ⟨rfl,G,j⟩;have F4:=F3.out.on G j;have K4:Hid (Kept (Rest fb g w) w w4):=H4 K3.out j;have f2:=F4.blk.frozen 2;have q2:=F4.blk.cell 2;simp only[List.getElem?_toArray,List.getElem?_cons_zero,List.getElem?_cons_succ]at q2;have F5:=hid (F4.setN n);have K5:Hid (Kept (Rest fb g w) w (w4.setCell ⟨fb,2,none⟩ (.int .i64 n))):=IG K4.out;clear G j F3 K3 K4 C3 d0 F4;go_upto_region 4 with fail;generalize w4.setCell ⟨fb,2,none⟩ (.int .i64 n)=w5 at *;clear f2 q2;have d0:=F5.out.ptr;go_wp2_with fail;refine(C4.out _ F5.out.cur).mono ?_;rintro e w6 ⟨rfl,J,y⟩;have F6:=F5.out.on J y;have K6:Hid (Kept (Rest fb g w) w w6):=H4 K5.out y;have f3:=F6.blk.frozen 3;have q3:=F6.blk.cell 3;simp only[List.getElem?_toArray,List.getElem?_cons_zero,List.getElem?_cons_succ]at q3;have F7:=hid (F6.setP p);have K7:Hid (Kept (Rest fb g w) w (w6.setCell ⟨fb,3,none⟩ (.int .i64 p))):=IG K6.out;clear J y F5 K5 K6 C4 d0 F6;go_upto_region 5 with fail;generalize w6.setCell ⟨fb,3,none⟩ (.int .i64 p)=w7 at *;clear f3 q3;have d0:=F7.out.ptr;have d2:=F7.out.blk.cell 2;have d3:=F7.out.blk.cell 3;simp only[List.getElem?_toArray,List.getElem?_cons_zero,List.getElem?_cons_succ]at d2 d3;by_cases i:1032*p+64<n
  ·have g4:decide (1032*(p:Int)+64<(n:Int))=true:=(by simp;omega);have g5:decide (1032*p+64<n)=true:=(by simp;omega);go_quiet (fail);have F8:=hid (F7.out.drewN nq);go_wp2_with fail;refine(C5.out i _ F8.out.cur).mono ?_;rintro e w8 ⟨rfl,E,z⟩;have F9:=hid (F8.out.fail E z);have K9:Hid (Kept (Rest fb g w) w w8):=LC (K7.out.drewN nq) z;clear E z F8 F7 K7 C5 L d0 d2 d3;go_wp2_with fail;refine bodyPost_end (Ds rfl _ _ _) rfl ?_;exact⟨rfl,F9.out,K9.out⟩
  ·have g4:decide (1032*(p:Int)+64<(n:Int))=false:=(by simp;omega);have g5:decide (1032*p+64<n)=false:=(by simp;omega);have F8:Hid (Fr w7 fb g base bs A c a3 e5 wy n p bv):=(by rw[L.out i];exact F7.out);go_quiet (fail);go_wp2_with fail;refine bodyPost_end (Ds rfl _ _ _) rfl ?_;exact⟨rfl,F8.out.drewN _,K7.out.drewN _⟩
end Block
namespace Block
open Go.RowKit Mem Own Canon
open Nums Crc
theorem rest_any(w:World)(fb g base:Nat)(bs:List Nat)(A:Option Addr)(c:Nat)(way n p:Nat)(X:Option Addr)(d:Nat)(aj:bs.length<=100000)(hd:bs.length<=d)(h8:∀x∈bs,x<=255)(hp:p=hP bs)(ht:TabAt w)
 (hx:Row w w.heap.size X bs.length 1 (iZ .u8 bs))(hX:0<bs.length->∀a,X=some a->a.add 0=a)(ai:0<bs.length->∀a,X=some a->a.block≠g/\a.block≠fb)(Z:0≠g/\0≠fb)(ab:base<=w.heap.size)
 (h:Fr w fb g base bs A c (hA3 bs) (hE5 bs) way n p (.slice none 0 0)):
 Calls Tryz.prog 211 #[.pointer (some ⟨fb,0,none⟩), .slice X bs.length d] w fun e w'=>e= .returned (.tuple #[])/\∃v,w'.ownsRow base 5 1 v (Bp bs).length (cZ .u8 (Bp bs))/\Fr w' fb g base bs A c (hA5 bs) (hE8 bs) way n p v/\Kept (Rest fb g w) w w':=by
 have aq:=Oi h8;have C1:Hid (∀wx,Cur wx g base bs A c (hA3 bs) (hE5 bs)->Calls Tryz.prog 85 #[.pointer (some ⟨g,0,none⟩), .int .i64 p] wx fun e w'=>∃v,e= .returned v/\w'.ownsRow wx.heap.size 5 1 v (Bp bs).length (cZ .u8 (Bp bs))/\Cur w' g base bs A c (hA4 bs) (hE6 bs)/\Kept (uZ g wx) wx w'):=fun wx hc=>by subst hp;exact I1 wx g base bs A c _ _ (hP bs) aj (by have:=JW h8;omega) hc
 have C2:Hid (∀wx,Cur wx g base bs A c (hA4 bs) (hE6 bs)->Calls Tryz.prog 85 #[.pointer (some ⟨g,0,none⟩), .int .i64 4] wx fun e w'=>∃v,e= .returned v/\w'.ownsRow wx.heap.size 5 1 v (AW bs (hA4 bs) (hE6 bs) 4).length (cZ .u8 (AW bs (hA4 bs) (hE6 bs) 4))/\Cur w' g base bs A c (hA5 bs) (hE7 bs)/\Kept (uZ g wx) wx w'):=fun wx hc=>I1 wx g base bs A c _ _ 4 aj (by omega) hc;have C3:Hid (∀wx er,Cur wx g base bs A c (hA5 bs) er->Calls Tryz.prog 89 #[.pointer (some ⟨g,0,none⟩)] wx fun e w'=>e= .returned (.int .i64 er)/\w'=wx):=fun wx er hc=>CI wx g base bs A c _ er hc;have C4:Hid (∀wx er,Cur wx g base bs A c (hA5 bs) er->Calls Tryz.prog 90 #[.pointer (some ⟨g,0,none⟩)] wx fun e w'=>e= .returned (.int .i64 (hA5 bs:Nat))/\w'=wx):=fun wx er hc=>IT wx g base bs A c _ er hc;have al:∀x∈bs.take (hA5 bs),x<=255:=fun x hx=>h8 x (BV hx);have ac:(bs.take (hA5 bs)).length=hA5 bs:=by rw[AO];omega
 have af:hE7 bs=0->0<bs.length:=fun h=>by
  unfold hE7 Be at h;split at h
  ·contradiction
  ·split at h
   ·cases h
   ·omega
 have KS:=hid (fun(h:hE7 bs=0) wx=>Dx (P:=Tryz.prog) (t:=22) (s:=1) Tryz.underlying22 (fun _=>by kernel_rfl) X bs.length d .i64 ((hA5 bs:Nat):Int) (hA5 bs) rfl (by omega) (hX (af h)) wx);have Y:∀wx,Kept (Rest fb g w) w wx->TabAt wx/\Row wx wx.heap.size X (hA5 bs) 1 (iZ .u8 (bs.take (hA5 bs))):=fun wx hk=>by refine⟨fun i hi=>(World.cell?_of_block (a:=⟨_,i,none⟩) (hk.block _ ⟨ht.lt,Z.1,Z.2⟩)).trans (ht i hi),?_⟩;refine Du (n:=bs.length) ?_ aq;intro h0;obtain⟨b,o,e,hb,hc⟩:=hx h0;have ae:=ai h0 _ e;refine⟨b,o,e,by have:=hk.size;omega,fun i j hi hj=> ?_⟩;exact(World.cell?_of_block (a:=⟨b,o+(i*1+j),none⟩) (hk.block b ⟨hb,ae.1,ae.2⟩)).trans (hc i j hi hj)
 have C5:Hid (∀wx,Kept (Rest fb g w) w wx->Calls Tryz.prog 65 #[.slice X (hA5 bs) d] wx (ER (bs.take (hA5 bs)) wx)):=fun wx hk=>Lc wx X (hA5 bs) d _ ac (by omega) (by omega) al (Y wx hk).1 (Y wx hk).2;have C6:Hid (∀wx er e2,Cur wx g base bs A c (hA5 bs) er->Calls Tryz.prog 88 #[.pointer (some ⟨g,0,none⟩), .int .i64 e2] wx fun e w'=>e= .returned (.tuple #[])/\Cur w' g base bs A c (hA5 bs) (Dv er e2)/\Kept (fun x=>x≠g) wx w'):=fun wx er e2 hc=>FT wx g base bs A c _ er e2 hc;have E8:Hid ((hE7 bs≠0->hE8 bs=hE7 bs)/\(hE7 bs=0->hE8 bs=Dv 0 (BS (bs.take (hA5 bs))))):=⟨fun h=>Ab h,fun h=>(Aa (by rw[h];simp)).trans rfl⟩;unfold ER at C5;have H:=hid h;clear ht hx hX ai af Z ac al Y hp h8 h;generalize hA3 bs=a3 at *;generalize hA4 bs=a4 at *;generalize hA5 bs=a5 at *;generalize hE5 bs=e5 at *;generalize hE6 bs=e6 at *;generalize hE7 bs=e7 at *;generalize hE8 bs=e8 at *;generalize Bp bs=body at *;generalize AW bs a4 e6 4=am at *;generalize BS (bs.take a5)=ce at *;generalize AI (bs.take a5)=co at *;have d0:=H.out.ptr;have d3:=H.out.blk.cell 3;have d4:=H.out.blk.cell 4;have f4:=H.out.blk.frozen 4;simp only[List.getElem?_toArray,List.getElem?_cons_zero,List.getElem?_cons_succ]at d3 d4;go_enter Tryz.func211,Tryz.ntmps211;go_upto_region 0 with fail;have F0:=H.out.drew;go_region_held3 (fun wx=>wx.cell? ⟨fb,0,none⟩=some (.pointer (some ⟨g,0,none⟩))/\wx.cell? ⟨fb,3,none⟩=some (.int .i64 p)) (first|exact⟨d0,d3⟩|exact k0|exact k1) (first|(go_at_call 85;(with_reducible refine(C1.out _ F0.cur).mono ?_);rintro e w1 ⟨v,rfl,y,ag,N⟩;obtain⟨va,vc,rfl⟩:=aZ y;have F1:=F0.on ag N;have k0:w1.cell? ⟨fb,0,none⟩=some (.pointer (some ⟨g,0,none⟩))/\w1.cell? ⟨fb,3,none⟩=some (.int .i64 p):=⟨F1.ptr,F1.blk.cell 3⟩;have q4:w1.cell? ⟨fb,4,none⟩=some (.slice none 0 0):=F1.blk.cell 4;have qf:w1.frozen? ⟨fb,4,none⟩=false:=F1.blk.frozen 4;have F2:=F1.setB (.slice va body.length vc);have k1:(w1.setCell ⟨fb,4,none⟩ (.slice va body.length vc)).cell? ⟨fb,0,none⟩=some (.pointer (some ⟨g,0,none⟩))/\(w1.setCell ⟨fb,4,none⟩ (.slice va body.length vc)).cell? ⟨fb,3,none⟩=some (.int .i64 p):=⟨F2.ptr,F2.blk.cell 3⟩));have K1:Hid (Kept (Rest fb g w) w (w1.setCell ⟨fb,4,none⟩ (.slice va body.length vc))):=IG (H4 ((Kept.refl _ _).drew) N);have L:=hid (jZ (wZ (p:=⟨fb,4,none⟩) y (fZ y F1.blk (by decide)) (.slice va body.length vc)) (show w.heap.size<=_ from Aj _));have F2:=hid F2;have ax:=N.size;have ar:(w1.setCell ⟨fb,4,none⟩ (.slice va body.length vc)).heap.size=w1.heap.size:=by simp
 generalize w1.setCell ⟨fb,4,none⟩ (.slice va body.length vc)=w2 at *;clear k0 k1 q4 qf y ag N F1 F0 d0 d3 d4 f4 H C1;have d0:=F2.out.ptr;go_wp2_with fail;refine(C2.out _ F2.out.cur).mono ?_;rintro e w3 ⟨v3,rfl,E,ah,Q⟩;obtain⟨au,ay,rfl⟩:=aZ E;have F3:=hid (F2.out.on ah Q);have K3:Hid (Kept (Rest fb g w) w w3):=H4 K1.out Q;have U:Hid (w3.ownsRow w.heap.size 5 1 (.slice va body.length vc) body.length (cZ .u8 body)):=dZ L.out (fun x hx=>Q.block x ⟨(Ae L.out x hx).2,fun e=>fZ L.out F2.out.cur.blk (by decide) (hx.trans (AJ some e))⟩);clear E ah Q F2 K1 L d0 C2;have d0:=F3.out.ptr;go_wp2_with fail;refine(C3.out _ _ F3.out.cur).mono ?_;rintro e w4 ⟨rfl,rfl⟩;by_cases z:e7=0
 ·have hE:=E8.out.2 z;have ks:=KS.out z;subst z;clear KS;go_wp2_with fail;refine(C4.out _ _ F3.out.cur).mono ?_;rintro e w5 ⟨rfl,rfl⟩;go_wp2_with fail;refine(C5.out _ K3.out).mono ?_;rintro e w6 ⟨v6,rfl,G,J⟩;obtain⟨av,aw,rfl⟩:=aZ G;have F6:Hid (Fr w6 fb g base bs A c a5 0 way n p (.slice va body.length vc)):=⟨F3.out.blk.step J,F3.out.cur.step J,F3.out.lo⟩;have K6:Hid (Kept (Rest fb g w) w w6):=K3.out.trans (Kept.of_below J (fun x hx=>by have:=hx.1;have:=K3.out.size;omega));have aa:Hid (w6.ownsRow w.heap.size 5 1 (.slice va body.length vc) body.length (cZ .u8 body)):=dZ U.out (fun x hx=>J.block x (Ae U.out x hx).2);clear G J F3 K3 U d0 C3 C4 C5;have d0:=F6.out.ptr;go_wp2_with fail;refine(C6.out _ _ ce F6.out.cur).mono ?_;rintro e w7 ⟨rfl,ak,M⟩;have F7:=hid (F6.out.fail ak M);have K7:Hid (Kept (Rest fb g w) w w7):=LC K6.out M;have an:Hid (w7.ownsRow w.heap.size 5 1 (.slice va body.length vc) body.length (cZ .u8 body)):=dZ aa.out (fun x hx=>M.block x (fun e=>fZ aa.out F6.out.cur.blk (by decide) (hx.trans (AJ some e))));have HE:=hid hE;clear ak M F6 K6 aa d0 C6 hE;go_wp2_with fail;refine bodyPost_end (Ds rfl _ _ _) rfl ?_;exact⟨rfl,_,jZ an.out ab,by rw[HE.out];exact F7.out,K7.out⟩
 ·have hE:=E8.out.1 z;have g1:(e7 != 0)=true:=by simpa using z
  have HE:=hid hE;clear hE z;go_wp2_with fail;refine AN (Ds rfl _ _ _) rfl ?_;exact⟨rfl,_,jZ U.out ab,by rw[HE.out];exact F3.out,K3.out⟩
end Block
namespace Block
open Go.RowKit Mem Own Canon
open Nums Crc
open Go.Proofs.YtbgoibedicbkjaaGreatDoor.Huff (BD CG K0 tkF Hb Ru MH Ja)
open Go.Proofs.YtbgoibedicbkjaaGreatDoor.Toks (Tk By)
theorem MW{body:List Nat}{n:Nat}(he:(BD body n).2=0):∀t∈(BD body n).1,(0<=t.lit/\t.lit<=255)/\By t.lit t.len t.dist=true:=fun t ht=>by have h:=((MH body n).1 he).1 t ht;exact⟨h.2.1,h.1⟩
theorem Xe(ts:List Tk):(ts.length:Int)<=Huff.EE ts:=by
 induction ts with
 |nil=>simp[Huff.EE]
 |cons t ts ih=>simp only[Huff.EE,List.length_cons];omega
theorem Rh{body:List Nat}{n:Nat}(he:(BD body n).2=0):(BD body n).1.length<=n:=by have h:=((MH body n).1 he).2;have:=Xe (BD body n).1;omega
def Ly(base way n p:Nat)(body:List Nat)(w:World)(e:Ending)(w':World):Prop:=
 ∃v,e= .returned (.tuple #[v, .int .i64 (byE way n p body)])/\w'.ownsRow base 5 1 v (byO way n p body).length (cZ .u8 (byO way n p body))/\Below w.heap.size w w'
theorem Tn(w:World)(fb g base:Nat)(bs:List Nat)(A:Option Addr)(c at_:Nat)(er:Int)(way n p:Nat)(va:Option Addr)(vc:Nat)(body:List Nat)(hn:n<=32768)(hp:p<=32768)(ak:body.length<=100000)(h8:∀x∈body,x<=255)(al:base<=w.heap.size)
 (E:w.ownsRow base 5 1 (.slice va body.length vc) body.length (cZ .u8 body))(h:Fr w fb g base bs A c at_ er way n p (.slice va body.length vc)):
 Calls Tryz.prog 212 #[.pointer (some ⟨fb,0,none⟩)] w (Ly base way n p body w):=by
 have d0:=h.ptr;have d1:=h.blk.cell 1;have d2:=h.blk.cell 2;have d3:=h.blk.cell 3;have d4:=h.blk.cell 4;simp only[List.getElem?_toArray,List.getElem?_cons_zero,List.getElem?_cons_succ]at d1 d2 d3 d4;unfold Ly;by_cases hw:way=0
 ·subst hw;by_cases ac:n=p
  ·subst ac;have hE:byE 0 n n body=0:=(by unfold byE;rw[Ab rfl,Aa (by simp)]);have hO:byO 0 n n body=body:=(by unfold byO;rw[hE,Aa (by simp),Ab rfl]);rw[hE,hO];have g1:((n:Int) != (n:Int))=false:=(by simp);have HO:=hid E;clear h h8 hE hO E;generalize N:body.length=L at *;clear N;go_enter Tryz.func212,Tryz.ntmps212;go_wp2_with fail;go_quiet (fail);go_wp2_with fail;go_ret2;exact⟨_,rfl,dZ HO.out (fun x hx=>rfl),below_drewN (Ag _ _) _⟩
  ·have hE:byE 0 n p body=2:=(by unfold byE;rw[Ab rfl,Ab ac]);have hO:byO 0 n p body= []:=(by unfold byO;rw[hE,Ab (by simp)]);rw[hE,hO];have g1:((n:Int) != (p:Int))=true:=(by simp;omega);clear h h8 hE hO E ac;go_enter Tryz.func212,Tryz.ntmps212;go_wp2_with fail;go_quiet (fail);go_wp2_with fail;go_ret2;exact⟨_,rfl,Am _ _ _ _,below_drewN (Ag _ _) _⟩
 ·have g0:((way:Int)==0)=false:=by rw[Fj];intro h;simp at h;omega
  have C1:Hid (∀wx,Below w.heap.size w wx->Calls Tryz.prog 246 #[.slice va body.length vc, .int .i64 n] wx (Hb (BD body n) wx)):=fun wx hb=>Ru wx va body.length vc body n (by omega) (by omega) rfl ak h8 (GC E) ((own_row E).below hb |>.mono hb.size);have Q:=MW (body:=body) (n:=n);have U:=Rh (body:=body) (n:=n);have hE:=show byE way n p body=_ from Aa hw
  have hO:byO way n p body=if byE way n p body≠0 then []else(Lz.El (BD body n).1 n).1:=by unfold byO;rw[Aa hw]
  unfold Hb at C1;generalize BD body n=R at *;obtain⟨ts,e1⟩:=R;simp only at hE hO C1 Q U;by_cases Z:e1=0
  ·subst Z;rw[Aa (by simp)]at hE;have U:=U rfl;have Q:=Q rfl;have C2:Hid (∀wx A2 c2,Row wx wx.heap.size A2 ts.length 3 (Toks.Hm ts)->Calls Tryz.prog 247 #[.slice A2 ts.length c2, .int .i64 n] wx (Lz.G8 (Lz.El ts n) wx)):=fun wx A2 c2 hr=>Lz.T4 wx A2 ts.length c2 ts n (by omega) rfl (by omega) Q hr;unfold Lz.G8 at C2;generalize Lz.El ts n=P at *;obtain⟨out,e2⟩:=P;simp only at hE hO C2;by_cases aa:e2=0
   ·subst aa;rw[Aa (by simp)]at hE;by_cases hl:out.length<n
    ·rw[Ab hl]at hE;have M:byO way n p body= []:=(by rw[hO,hE,Ab (by simp)]);rw[hE,M];have g5:decide ((out.length:Int)<(n:Int))=true:=(by simp;omega);have g6:decide (out.length<n)=true:=(by simp;omega);clear hl;have H:=hid h;have hL:body.length=body.length:=rfl;clear h8 hE hO M E hw hL h;generalize N:body.length=L at *;clear N d3;go_enter Tryz.func212,Tryz.ntmps212;go_upto_region 5 with fail;go_region_held3 (fun wx=>wx.cell? ⟨fb,4,none⟩=some (.slice va L vc)/\wx.cell? ⟨fb,2,none⟩=some (.int .i64 n)) (first|exact⟨d4,d2⟩|exact k0) (first|(go_at_call 246;(with_reducible refine(C1.out _ (by(repeat (with_reducible first|exact Ag _ _|assumption|refine Aq ?_ |refine below_drewN ?_ _|refine qZ ?_ |refine bZ ?_ |refine eZ (by assumption) ?_ |refine belA ?_ |refine rZ (by assumption) ?_)))).mono ?_);rintro e w2 ⟨v2,rfl,i,j⟩;obtain⟨ae,ab,rfl⟩:=aZ i;have k0:w2.cell? ⟨fb,4,none⟩=some (.slice va L vc)/\w2.cell? ⟨fb,2,none⟩=some (.int .i64 n):=⟨(H.out.drew.blk.step j).cell 4,(H.out.drew.blk.step j).cell 2⟩));have F2:=hid (⟨H.out.drew.blk.step j,H.out.drew.cur.step j,H.out.lo⟩:Fr w2 fb g base bs A c at_ er way n p (.slice va L vc));have J:Hid (Below w.heap.size w w2):=(Ag _ _).drew.trans j;clear j k0 d0 d1 d2 d4 C1 H;have d2:w2.cell? ⟨fb,2,none⟩=some (.int .i64 n):=F2.out.blk.cell 2;have z:=Ia i;generalize ts.length=tl at *;go_wp2_with fail;refine(C2.out _ _ _ z).mono ?_;rintro e w3 ⟨v3,rfl,y,G⟩;obtain⟨af,ah,rfl⟩:=aZ y;have F3:=hid (⟨F2.out.blk.step G,F2.out.cur.step G,F2.out.lo⟩:Fr w3 fb g base bs A c at_ er way n p (.slice va L vc));have Y:Hid (Below w.heap.size w w3):=J.out.trans (G.mono J.out.size);clear G z i C2 F2 d2;have d2:w3.cell? ⟨fb,2,none⟩=some (.int .i64 n):=F3.out.blk.cell 2;generalize out.length=ol at *;go_wp2_with fail;go_ret2;exact⟨_,rfl,Am _ _ _ _,Y.out⟩
    ·rw[Aa hl]at hE;have M:byO way n p body=out:=(by rw[hO,hE,Aa (by simp)]);rw[hE,M];have g5:decide ((out.length:Int)<(n:Int))=false:=(by simp;omega);have g6:decide (out.length<n)=false:=(by simp;omega);clear hl;have H:=hid h;have hL:body.length=body.length:=rfl;clear h8 hE hO M E hw hL h;generalize N:body.length=L at *;clear N d3;go_enter Tryz.func212,Tryz.ntmps212;go_upto_region 5 with fail;go_region_held3 (fun wx=>wx.cell? ⟨fb,4,none⟩=some (.slice va L vc)/\wx.cell? ⟨fb,2,none⟩=some (.int .i64 n)) (first|exact⟨d4,d2⟩|exact k0) (first|(go_at_call 246;(with_reducible refine(C1.out _ (by(repeat (with_reducible first|exact Ag _ _|assumption|refine Aq ?_ |refine below_drewN ?_ _|refine qZ ?_ |refine bZ ?_ |refine eZ (by assumption) ?_ |refine belA ?_ |refine rZ (by assumption) ?_)))).mono ?_);rintro e w2 ⟨v2,rfl,i,j⟩;obtain⟨ae,ab,rfl⟩:=aZ i;have k0:w2.cell? ⟨fb,4,none⟩=some (.slice va L vc)/\w2.cell? ⟨fb,2,none⟩=some (.int .i64 n):=⟨(H.out.drew.blk.step j).cell 4,(H.out.drew.blk.step j).cell 2⟩));have F2:=hid (⟨H.out.drew.blk.step j,H.out.drew.cur.step j,H.out.lo⟩:Fr w2 fb g base bs A c at_ er way n p (.slice va L vc));have J:Hid (Below w.heap.size w w2):=(Ag _ _).drew.trans j;clear j k0 d0 d1 d2 d4 C1 H;have d2:w2.cell? ⟨fb,2,none⟩=some (.int .i64 n):=F2.out.blk.cell 2;have z:=Ia i;generalize ts.length=tl at *;go_wp2_with fail;refine(C2.out _ _ _ z).mono ?_;rintro e w3 ⟨v3,rfl,y,G⟩;obtain⟨af,ah,rfl⟩:=aZ y;have F3:=hid (⟨F2.out.blk.step G,F2.out.cur.step G,F2.out.lo⟩:Fr w3 fb g base bs A c at_ er way n p (.slice va L vc));have Y:Hid (Below w.heap.size w w3):=J.out.trans (G.mono J.out.size);clear G z i C2 F2 d2;have d2:w3.cell? ⟨fb,2,none⟩=some (.int .i64 n):=F3.out.blk.cell 2;have aj:=hid (jZ y (show base<=_ by have:=J.out.size;omega));clear y;generalize ag:out.length=ol at *;have ai:=hid ag;clear ag;go_wp2_with fail;go_ret2;exact⟨_,rfl,by rw[ai.out];exact aj.out,Y.out⟩
   ·rw[Ab aa]at hE;have M:byO way n p body= []:=(by rw[hO,hE,Ab aa]);rw[hE,M];have g5:(e2 != 0)=true:=(by simpa using aa);clear aa;have H:=hid h;have hL:body.length=body.length:=rfl;clear h8 hE hO M E hw hL h;generalize N:body.length=L at *;clear N d3;go_enter Tryz.func212,Tryz.ntmps212;go_upto_region 5 with fail;go_region_held3 (fun wx=>wx.cell? ⟨fb,4,none⟩=some (.slice va L vc)/\wx.cell? ⟨fb,2,none⟩=some (.int .i64 n)) (first|exact⟨d4,d2⟩|exact k0) (first|(go_at_call 246;(with_reducible refine(C1.out _ (by(repeat (with_reducible first|exact Ag _ _|assumption|refine Aq ?_ |refine below_drewN ?_ _|refine qZ ?_ |refine bZ ?_ |refine eZ (by assumption) ?_ |refine belA ?_ |refine rZ (by assumption) ?_)))).mono ?_);rintro e w2 ⟨v2,rfl,i,j⟩;obtain⟨ae,ab,rfl⟩:=aZ i;have k0:w2.cell? ⟨fb,4,none⟩=some (.slice va L vc)/\w2.cell? ⟨fb,2,none⟩=some (.int .i64 n):=⟨(H.out.drew.blk.step j).cell 4,(H.out.drew.blk.step j).cell 2⟩));have F2:=hid (⟨H.out.drew.blk.step j,H.out.drew.cur.step j,H.out.lo⟩:Fr w2 fb g base bs A c at_ er way n p (.slice va L vc));have J:Hid (Below w.heap.size w w2):=(Ag _ _).drew.trans j;clear j k0 d0 d1 d2 d4 C1 H;have d2:w2.cell? ⟨fb,2,none⟩=some (.int .i64 n):=F2.out.blk.cell 2;have z:=Ia i;generalize ts.length=tl at *;go_wp2_with fail;refine(C2.out _ _ _ z).mono ?_;rintro e w3 ⟨v3,rfl,y,G⟩;obtain⟨af,ah,rfl⟩:=aZ y;have F3:=hid (⟨F2.out.blk.step G,F2.out.cur.step G,F2.out.lo⟩:Fr w3 fb g base bs A c at_ er way n p (.slice va L vc));have Y:Hid (Below w.heap.size w w3):=J.out.trans (G.mono J.out.size);clear G z i C2 F2 d2;clear y;generalize out.length=ol at *;go_wp2_with fail;go_ret2;exact⟨_,rfl,Am _ _ _ _,Y.out⟩
  ·rw[Ab Z]at hE;have M:byO way n p body= []:=(by rw[hO,hE,Ab Z]);rw[hE,M];have g1:(e1 != 0)=true:=(by simpa using Z);clear Z U Q;have H:=hid h;have hL:body.length=body.length:=rfl;clear h8 hE hO M E hw hL h;generalize N:body.length=L at *;clear N d3;go_enter Tryz.func212,Tryz.ntmps212;go_upto_region 5 with fail;go_region_held3 (fun wx=>wx.cell? ⟨fb,4,none⟩=some (.slice va L vc)/\wx.cell? ⟨fb,2,none⟩=some (.int .i64 n)) (first|exact⟨d4,d2⟩|exact k0) (first|(go_at_call 246;(with_reducible refine(C1.out _ (by(repeat (with_reducible first|exact Ag _ _|assumption|refine Aq ?_ |refine below_drewN ?_ _|refine qZ ?_ |refine bZ ?_ |refine eZ (by assumption) ?_ |refine belA ?_ |refine rZ (by assumption) ?_)))).mono ?_);rintro e w2 ⟨v2,rfl,i,j⟩;obtain⟨ae,ab,rfl⟩:=aZ i;have k0:w2.cell? ⟨fb,4,none⟩=some (.slice va L vc)/\w2.cell? ⟨fb,2,none⟩=some (.int .i64 n):=⟨(H.out.drew.blk.step j).cell 4,(H.out.drew.blk.step j).cell 2⟩));have F2:=hid (⟨H.out.drew.blk.step j,H.out.drew.cur.step j,H.out.lo⟩:Fr w2 fb g base bs A c at_ er way n p (.slice va L vc));have J:Hid (Below w.heap.size w w2):=(Ag _ _).drew.trans j;clear j k0 d0 d1 d2 d4 C1 H;clear i;go_wp2_with fail;go_ret2;exact⟨_,rfl,Am _ _ _ _,J.out⟩
end Block
namespace Block
open Go.RowKit Mem Own Canon
open Nums Crc
open Go.Proofs.YtbgoibedicbkjaaGreatDoor.Toks (Tk By)
theorem Rf(most:Int):∀ (ts:List Tk) (out:List Nat),(out.length:Int)<=most->((Lz.Dg most out ts).1.length:Int)<=most
 | [],out,h=>h
 |t :: ts,out,h=>by
  rw[Lz.Dg];split
  ·rename_i he;refine Rf most ts _ ?_;unfold Lz.Gw at he;split at he
   ·split at he
    ·omega
    ·split at he
     ·omega
     ·split
      ·rw[Ai];simp;omega
      ·rw[Lz.G3];omega
   ·omega
  ·simp;omega
theorem WX(ts:List Tk)(n:Nat):(Lz.El ts n).1.length<=n:=by
 unfold Lz.El;split
 ·simp
 ·have:=Rf n ts [] (by simp);omega
theorem Ra(bs:List Nat):(Bp bs).length<=bs.length:=by
 unfold Bp AW;split
 ·simp
 ·split
  ·simp
  ·simp;omega
theorem Ju{bs:List Nat}(h8:∀x∈bs,x<=255):(opO bs).length<=max 32768 bs.length:=by
 have h1:=Ra bs;have h2:=WX (Huff.BD (Bp bs) (hN bs)).1 (hN bs);have h3:=JY h8;unfold opO byO;split
 ·simp
 ·split
  ·simp
  ·split<;>omega
def MS(bs:List Nat)(w:World)(e:Ending)(w':World):Prop:=
 ∃v1 v2,e= .returned (.tuple #[v1,v2, .int .i64 (opE bs)])/\Below w.heap.size w w'/\(opE bs=0->hE8 bs=0/\∃fb g A c bv va vc,v1= .pointer (some ⟨fb,0,none⟩)/\v2= .slice va (opO bs).length vc/\Fr w' fb g w.heap.size bs A c (hA5 bs) 0 (BR bs) (hN bs) (hP bs) bv/\w'.ownsRow w.heap.size 5 1 v2 (opO bs).length (cZ .u8 (opO bs)))
theorem WH(w:World)(bs:List Nat)(X:Option Addr)(d:Nat)(M:bs.length<=100000)(hd:bs.length<=d)(hX:X=none->bs.length=0/\d=0)(Q:0<bs.length->∀a,X=some a->a.add 0=a/\a.block<w.heap.size)(h8:∀x∈bs,x<=255)(ht:TabAt w)(hx:Row w w.heap.size X bs.length 1 (iZ .u8 bs)):
 Calls Tryz.prog 172 #[.slice X bs.length d] w (MS bs w):=by
 have C1:=hid (Nums.new_any w X bs.length d bs rfl M hX hx);have C2:Hid (∀wx fb g B e (h:Fr wx fb g w.heap.size bs B e 0 0 0 0 0 (.slice none 0 0)),Calls Tryz.prog 210 #[.pointer (some ⟨fb,0,none⟩)] wx fun e' w'=>e'= .returned (.tuple #[])/\Fr w' fb g w.heap.size bs B e (hA3 bs) (hE5 bs) (BR bs) (hN bs) (hP bs) (.slice none 0 0)/\Kept (Rest fb g wx) wx w'):=fun wx fb g B e h=>Xw wx fb g w.heap.size bs B e _ M h8 h;have C3:Hid (∀wx fb g B e (hb:Below w.heap.size w wx) (h:Fr wx fb g w.heap.size bs B e (hA3 bs) (hE5 bs) (BR bs) (hN bs) (hP bs) (.slice none 0 0)),Calls Tryz.prog 211 #[.pointer (some ⟨fb,0,none⟩), .slice X bs.length d] wx fun e' w'=>e'= .returned (.tuple #[])/\∃v,w'.ownsRow w.heap.size 5 1 v (Bp bs).length (cZ .u8 (Bp bs))/\Fr w' fb g w.heap.size bs B e (hA5 bs) (hE8 bs) (BR bs) (hN bs) (hP bs) v/\Kept (Rest fb g wx) wx w'):=fun wx fb g B e hb h=>Block.rest_any wx fb g w.heap.size bs B e _ _ _ X d M hd h8 rfl (ht.below hb ht.lt) ((hx.below hb).mono hb.size) (fun h0 a ha=>(Q h0 a ha).1) (fun h0 a ha=>by have:=(Q h0 a ha).2;have:=h.cur.lo;have:=h.lo;omega) (by have:=ht.lt;have:=h.cur.lo;have:=h.lo;omega) hb.size h;have C4:Hid (∀wx g B e a er (h:Cur wx g w.heap.size bs B e a er),Calls Tryz.prog 89 #[.pointer (some ⟨g,0,none⟩)] wx fun e' w'=>e'= .returned (.int .i64 er)/\w'=wx):=fun wx g B e a er h=>CI wx g w.heap.size bs B e a er h;have av:=Ra bs;have aj:∀x∈Bp bs,x<=255:=fun x hx=>h8 x (Md hx);have C5:Hid (∀wx fb g B e a er va vc (hb:w.heap.size<=wx.heap.size) (ho:wx.ownsRow w.heap.size 5 1 (.slice va (Bp bs).length vc) (Bp bs).length (cZ .u8 (Bp bs))) (h:Fr wx fb g w.heap.size bs B e a er (BR bs) (hN bs) (hP bs) (.slice va (Bp bs).length vc)),Calls Tryz.prog 212 #[.pointer (some ⟨fb,0,none⟩)] wx (Ly w.heap.size (BR bs) (hN bs) (hP bs) (Bp bs) wx)):=fun wx fb g B e a er va vc hb ho h=>Tn wx fb g w.heap.size bs B e a er _ _ _ va vc _ (JY h8) (JW h8) (by omega) aj hb ho h;unfold Ly at C5;have ae:(hE8 bs≠0->opE bs=hE8 bs)/\(hE8 bs=0->opE bs=byE (BR bs) (hN bs) (hP bs) (Bp bs)):=⟨fun h=>Ab h,fun h=>Aa (by rw[h];simp)⟩;have U:opE bs=0->opO bs=byO (BR bs) (hN bs) (hP bs) (Bp bs):=fun h=>Aa (by rw[h];simp);have Z:=hid ae;have aa:=hid U;clear ht hx hX Q h8 aj ae U;unfold MS;go_enter Tryz.func172,Tryz.ntmps172;go_wp2_with fail;refine C1.out.mono ?_;rintro e w1 ⟨g,B,dd,rfl,G,L⟩;have ah:=L.size;have aq:=G.blk.lt
 have HF:Hid (Fr (w1.alloc (.cells #[.pointer (some ⟨g,0,none⟩), .int .i64 0, .int .i64 0, .int .i64 0, .slice none 0 0] 230)) w1.heap.size g w.heap.size bs B dd 0 0 0 0 0 (.slice none 0 0)):=
  ⟨Blk.made _ _ _,G.step (bZ (Ag _ _)),ah⟩
 have HB:Hid (Below w.heap.size w (w1.alloc (.cells #[.pointer (some ⟨g,0,none⟩), .int .i64 0, .int .i64 0, .int .i64 0, .slice none 0 0] 230))):=kZ ah L;have hg:w.heap.size<=g:=G.lo;go_upto_region 2 with fail;generalize w1.alloc (.cells #[.pointer (some ⟨g,0,none⟩), .int .i64 0, .int .i64 0, .int .i64 0, .slice none 0 0] 230)=w2 at *;generalize w1.heap.size=fb at *;clear G L aq C1;go_wp2_with fail;refine(C2.out _ _ _ _ _ HF.out).mono ?_;rintro e w3 ⟨rfl,ab,ai⟩;have J:Hid (Below w.heap.size w w3):=HB.out.trans (ai.below (fun x hx=>⟨by have:=HB.out.size;omega,by omega,by omega⟩));have F3:=hid ab;clear ab ai HF HB C2;go_wp2_with fail;refine(C3.out _ _ _ _ _ J.out F3.out).mono ?_;rintro e w4 ⟨rfl,v4,y,N,Y⟩;obtain⟨ac,af,rfl⟩:=aZ y;have z:Hid (Below w.heap.size w w4):=J.out.trans (Y.below (fun x hx=>⟨by have:=J.out.size;omega,by omega,by omega⟩));have F4:=hid N;have ag:=hid y;have d0:=N.ptr;clear N Y y F3 J C3;go_wp2_with fail;refine(C4.out _ _ _ _ _ _ F4.out.cur).mono ?_;rintro e w5 ⟨rfl,rfl⟩;by_cases i:hE8 bs=0
 ·have hE:=Z.out.2 i;have F5:Hid (Fr w5 fb g w.heap.size bs B dd (hA5 bs) 0 (BR bs) (hN bs) (hP bs) (.slice ac (Bp bs).length af)):=by rw[<-i];exact F4.out
  rw[i];have an:=hid i;have HE:=hid hE;clear i hE F4;go_wp2_with fail;refine(C5.out _ _ _ _ _ _ _ _ _ z.out.size ag.out F5.out).mono ?_;rintro e w6 ⟨v6,rfl,j,E⟩;obtain⟨au,am,rfl⟩:=aZ j;have ak:Hid (Below w.heap.size w w6):=z.out.trans (E.mono z.out.size);have F6:Hid (Fr w6 fb g w.heap.size bs B dd (hA5 bs) 0 (BR bs) (hN bs) (hP bs) (.slice ac (Bp bs).length af)):=⟨F5.out.blk.step E,F5.out.cur.step E,F5.out.lo⟩;have ar:=hid j;clear j E F5 z ag d0 C4 C5;go_wp2_with fail
  go_ret3
  refine⟨_,_,by rw[HE.out];rfl,ak.out,fun h0=>⟨an.out,fb,g,B,dd,_,au,am,rfl,?_,F6.out,?_⟩⟩
  ·rw[aa.out h0];rfl
  ·rw[aa.out h0];exact ar.out
 ·have hE:=Z.out.1 i;have g1:(hE8 bs != 0)=true:=by simpa using i
  have HE:=hid hE;have al:=hid i;clear i hE;go_wp2_with fail
  go_ret3
  exact⟨_,_,by rw[HE.out];rfl,z.out,fun h0=>absurd (HE.out.symm.trans h0) al.out⟩
def GX(bs:List Nat)(w:World)(e:Ending)(w':World):Prop:=
 ∃v,e= .returned (.tuple #[v, .int .i64 (opA bs), .int .i64 (opE bs)])/\w'.ownsRow w.heap.size 5 1 v (opO bs).length (cZ .u8 (opO bs))/\Below w.heap.size w w'
theorem Rc(w:World)(bs:List Nat)(X:Option Addr)(n d:Nat)(hn:bs.length=n)(N:n<=100000)(hd:n<=d)(hX:X=none->n=0/\d=0)(E:0<bs.length->∀a,X=some a->a.add 0=a/\a.block<w.heap.size)(h8:∀x∈bs,x<=255)(ht:TabAt w)(hx:Row w w.heap.size X n 1 (iZ .u8 bs)):
 Calls Tryz.prog 118 #[.slice X n d] w (GX bs w):=by
 subst hn;have C1:=hid (WH w bs X d N hd hX E h8 ht hx);unfold MS at C1;have M:=Ju h8;unfold GX;by_cases he:opE bs=0
 ·rw[he]at C1 ⊢;have hA:opA bs=hA5 bs:=Aa (by rw[he];simp);rw[hA];clear ht hx hX E h8 hA he hd;generalize opO bs=out at *;generalize hA5 bs=a5 at *;go_enter Tryz.func118,Tryz.ntmps118;go_wp2_with fail;refine C1.out.mono ?_;rintro e w1 ⟨v1,v2,rfl,j,i⟩;obtain⟨_,fb,g,B,dd,bv,va,vc,rfl,rfl,hf,h⟩:=i (by first|trivial|rfl);have J:=GC h;have y:=own_row h;have D1:Hid (∀wx,Below w1.heap.size w1 wx->Calls Tryz.prog 84 #[.slice va out.length vc] wx fun e' w'=>∃v,e'= .returned v/\w'.ownsRow wx.heap.size 5 1 v out.length (cZ .u8 out)/\Below wx.heap.size wx w'):=fun wx hb=>GY wx va _ vc _ rfl (by omega) J ((y.below hb).mono hb.size);have D2:Hid (∀wx,Below w1.heap.size w1 wx->Calls Tryz.prog 90 #[.pointer (some ⟨g,0,none⟩)] wx fun e' w'=>e'= .returned (.int .i64 (a5:Nat))/\w'=wx):=fun wx hb=>IT wx g w.heap.size bs B dd _ 0 (hf.cur.step hb);have d0:w1.cell? ⟨fb,0,none⟩=some (.pointer (some ⟨g,0,none⟩)):=hf.ptr;have KP:Hid (∀wx,Below w1.heap.size w1 wx->wx.cell? ⟨fb,0,none⟩=some (.pointer (some ⟨g,0,none⟩))):=fun wx hb=>(hb.cell (p:=⟨fb,0,none⟩) hf.blk.lt).trans hf.ptr;have z:=hid j;clear j hf h J y C1 i;generalize L:out.length=ol at *;have U:=hid L;clear L;go_upto_region 4 with fail;have b0:Below w1.heap.size w1 w1.drew:=(Ag _ _).drew;go_region_held3 (fun wx=>wx.cell? ⟨fb,0,none⟩=some (.pointer (some ⟨g,0,none⟩))) (first|exact d0|exact KP.out _ (by assumption)) (first|(go_at_call 84;(with_reducible refine(D1.out _ (by assumption)).mono ?_);rintro e' w' ⟨v,rfl,h,hb⟩;have bN:Below w1.heap.size w1 w':=Cn (by assumption) (Below.size (by assumption)) (by assumption))|(go_at_call 90;(with_reducible refine(D2.out _ (by assumption)).mono ?_);rintro e' w' ⟨rfl,rfl⟩));have hz:=z.out.size;have Q:Hid (Below w.heap.size w w'):=z.out.trans (bN.mono hz);have G:Hid (w'.ownsRow w.heap.size 5 1 v ol (cZ .u8 out)):=jZ h (show w.heap.size<=w1.heap.size from hz);obtain⟨Z,Y,rfl⟩:=aZ G.out;clear h hb bN b0 D1 D2 KP z d0;go_wp2_with fail
  go_ret3
  exact⟨_,rfl,by rw[U.out];exact G.out,Q.out⟩
 ·have hO:opO bs= []:=Ab he;have hA:opA bs=0:=Ab he;rw[hO,hA];have g1:(opE bs != 0)=true:=by simpa using he
  generalize opE bs=er at *;clear ht hx hX E h8 hO hA M hd he;go_enter Tryz.func118,Tryz.ntmps118;go_wp2_with fail;refine C1.out.mono ?_;rintro e w1 ⟨v1,v2,rfl,j,i⟩;clear i C1;go_wp2_with fail
  go_ret3
  exact⟨_,rfl,Am _ _ _ _,j⟩
end Block
end Go.Proofs.YtbgoibedicbkjaaGreatDoor

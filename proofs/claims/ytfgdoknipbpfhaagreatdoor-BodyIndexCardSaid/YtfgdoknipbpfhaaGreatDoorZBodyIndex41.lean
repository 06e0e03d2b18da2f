/- Plain: a frame, as i -/
import Derived.Test.YtfgdoknipbpfhaaGreatDoorZBodyIndex10
import Derived.Test.YtfgdoknipbpfhaaGreatDoorZBodyIndex40
import Derived.Test.YtfgdoknipbpfhaaGreatDoorZBodyIndex14
namespace Go.Proofs.YtfgdoknipbpfhaaGreatDoor
open Go.Proofs.Tryz
open Go.Lib (hid)
set_option maxHeartbeats 1000000
set_option maxRecDepth 100000
variable{fb g i n:Nat}{u:Value}{j:Int}{w w1 w2:World}
namespace Block
open Nums Crc
open Huff (Cy)
def Eo(bs:List Nat):Nat:=GQ bs 0 0
def hA1(bs:List Nat):Nat:=takeA bs 0 0 1
def hE1(bs:List Nat):Int:=Cj bs 0 0 1
def hE2(bs:List Nat):Int:=if 1<Eo bs then Gq (hE1 bs) 2 else hE1 bs
def hN(bs:List Nat):Nat:=Bh 32768 bs (hA1 bs) (hE2 bs)
def hA2(bs:List Nat):Nat:=AR 32768 bs (hA1 bs) (hE2 bs)
def hE3(bs:List Nat):Int:=AU 32768 bs (hA1 bs) (hE2 bs)
def hP(bs:List Nat):Nat:=Bh 32768 bs (hA2 bs) (hE3 bs)
def hA3(bs:List Nat):Nat:=AR 32768 bs (hA2 bs) (hE3 bs)
def hE4(bs:List Nat):Int:=AU 32768 bs (hA2 bs) (hE3 bs)
def hE5(bs:List Nat):Int:=if 1032*hP bs+64<hN bs then Gq (hE4 bs) 6 else hE4 bs
def Di(bs:List Nat):List Nat:=BJ bs (hA3 bs) (hE5 bs) (hP bs)
def hA4(bs:List Nat):Nat:=takeA bs (hA3 bs) (hE5 bs) (hP bs)
def hE6(bs:List Nat):Int:=Cj bs (hA3 bs) (hE5 bs) (hP bs)
def hA5(bs:List Nat):Nat:=takeA bs (hA4 bs) (hE6 bs) 4
def hE7(bs:List Nat):Int:=Cj bs (hA4 bs) (hE6 bs) 4
def hE8(bs:List Nat):Int:=if hE7 bs≠0 then hE7 bs else C7 (bs.take (hA5 bs))
def byE(way n p:Nat)(body:List Nat):Int:=
 if way=0 then if n≠p then 2 else 0
 else if(Cy body n).2≠0 then(Cy body n).2
 else if(Lz.FQ (Cy body n).1 n).2≠0 then(Lz.FQ (Cy body n).1 n).2
 else if(Lz.FQ (Cy body n).1 n).1.length<n then 2 else 0
def byO(way n p:Nat)(body:List Nat):List Nat:=if byE way n p body≠0 then []else if way=0 then body else(Lz.FQ (Cy body n).1 n).1
def opE(bs:List Nat):Int:=if hE8 bs≠0 then hE8 bs else byE (Eo bs) (hN bs) (hP bs) (Di bs)
def opO(bs:List Nat):List Nat:=if opE bs≠0 then []else byO (Eo bs) (hN bs) (hP bs) (Di bs)
def opA(bs:List Nat):Nat:=if opE bs≠0 then 0 else hA5 bs
theorem WU{bs:List Nat}(h8:∀x∈bs,x<=255)(at_:Nat)(er:Int):GQ bs at_ er<=255:=by
 unfold GQ;split
 ·omega
 ·by_cases h:at_<bs.length
  ·rw[Aq,AD h];exact h8 _ (GI h)
  ·rw[Aq,FO nB];show 0<=255;omega
theorem SC{bs:List Nat}(h8:∀x∈bs,x<=255)(most at_:Nat)(er:Int):Bh most bs at_ er<=most:=by
 unfold Bh;split
 ·omega
 ·exact(Hv most (bs.drop at_) (fun x hx=>h8 x (Cg hx))).1
theorem intA_le{bs:List Nat}(h8:∀x∈bs,x<=255)(most at_:Nat)(er:Int)(h:at_<=bs.length):AR most bs at_ er<=bs.length:=by
 unfold AR;split
 ·exact h
 ·have:=(Hv most (bs.drop at_) (fun x hx=>h8 x (Cg hx))).2.1;rw[AZ]at this;omega
theorem aO(bs:List Nat):hA1 bs<=bs.length:=L5 bs 0 0 1 (Da _)
section
variable {bs:List Nat} (h8:∀x∈bs,x<=255)
include h8
theorem Z3:hA2 bs<=bs.length:=intA_le h8 _ _ _ (aO bs)
theorem ZJ:hA3 bs<=bs.length:=intA_le h8 _ _ _ (Z3 h8)
theorem Zq:hA4 bs<=bs.length:=L5 bs _ _ _ (ZJ h8)
theorem Y6:hA5 bs<=bs.length:=L5 bs _ _ _ (Zq h8)
theorem N6:hN bs<=32768:=SC h8 _ _ _
theorem NV:hP bs<=32768:=SC h8 _ _ _
theorem WA:Eo bs<=255:=WU h8 _ _
end
theorem Sh{bs:List Nat}{at_:Nat}{er:Int}{x:Nat}(h:x∈BJ bs at_ er n):x∈bs:=by
 unfold BJ at h;split at h
 ·cases h
 ·split at h
  ·cases h
  ·exact Cg (CN h)
end Block
namespace Block
open Go.RowKit Mem Own Canon
open Nums Crc
structure Fr (w:World) (fb g base:Nat) (bs:List Nat) (A:Option Addr) (c at_:Nat) (er:Int) (way n p:Nat) (bv:Value):Prop where
 blk:Blk w fb 262 #[.pointer (some ⟨g,0,none⟩),way,n,p,bv]
 cur:Cur w g base bs A c at_ er
 lo:base<=fb
section
variable {w w':World} {fb g base:Nat} {bs:List Nat} {A:Option Addr} {c at_:Nat} {er:Int} {way n p:Nat} {bv:Value}
theorem Fr.ne(h:Fr w fb g base bs A c at_ er way n p bv):fb≠g:=Blk.apart h.blk h.cur.blk ji
theorem Fr.drew(h:Fr w fb g base bs A c at_ er way n p bv):Fr w.drew fb g base bs A c at_ er way n p bv:=⟨h.blk,h.cur.drew,h.lo⟩
theorem Fr.drewN(h:Fr w fb g base bs A c at_ er way n p bv)(q:Nat):Fr (w.drewN q) fb g base bs A c at_ er way n p bv:=⟨h.blk,h.cur.drewN q,h.lo⟩
theorem Fr.ptr(h:Fr w fb g base bs A c at_ er way n p bv):w.cell? ⟨fb,0,none⟩=some (.pointer (some ⟨g,0,none⟩)):=h.blk.cell 0
theorem cur_far(h:Cur w g base bs A c at_ er){cs:Array Value}(hb:Blk w fb 262 cs):Cur (w.setCell ⟨fb,i,none⟩ u) g base bs A c at_ er:=
 ⟨h.blk.far (fun e=>Blk.apart hb h.blk ji e.symm) _,Cb h.own (iZ h.own hb ji) _,h.le,h.lo⟩
theorem Fr.on(h:Fr w fb g base bs A c at_ er way n p bv)(hc:Cur w' g base bs A c i j)(hk:Kept (BL g w) w w'):Fr w' fb g base bs A c i j way n p bv:=
 ⟨(hk.block fb ⟨h.blk.lt,h.ne⟩).trans h.blk,hc,h.lo⟩
theorem Fr.fail(h:Fr w fb g base bs A c at_ er way n p bv)(hc:Cur w' g base bs A c i j)(hk:Kept (fun x=>x≠g) w w'):Fr w' fb g base bs A c i j way n p bv:=
 ⟨(hk.block fb h.ne).trans h.blk,hc,h.lo⟩
theorem Fr.setWay(h:Fr w fb g base bs A c at_ er way n p bv)(x:Nat):Fr (w.setCell ⟨fb,1,none⟩ (.int .i64 x)) fb g base bs A c at_ er x n p bv:=⟨h.blk.set 1 _,cur_far h.cur h.blk,h.lo⟩
theorem Fr.setN(h:Fr w fb g base bs A c at_ er way n p bv)(x:Nat):Fr (w.setCell ⟨fb,2,none⟩ (.int .i64 x)) fb g base bs A c at_ er way x p bv:=⟨h.blk.set 2 _,cur_far h.cur h.blk,h.lo⟩
theorem Fr.setP(h:Fr w fb g base bs A c at_ er way n p bv)(x:Nat):Fr (w.setCell ⟨fb,3,none⟩ (.int .i64 x)) fb g base bs A c at_ er way n x bv:=⟨h.blk.set 3 _,cur_far h.cur h.blk,h.lo⟩
theorem Fr.setB(h:Fr w fb g base bs A c at_ er way n p bv)(x:Value):Fr (w.setCell ⟨fb,4,none⟩ x) fb g base bs A c at_ er way n p x:=⟨h.blk.set 4 _,cur_far h.cur h.blk,h.lo⟩
end
def Rest(fb g:Nat)(w:World)(x:Nat):Prop:=x<w.heap.size/\x≠g/\x≠fb
theorem JA(h:Kept (Rest fb g w) w w1)(k:Kept (BL g w1) w1 w2):Kept (Rest fb g w) w w2:=
 h.trans ⟨k.os,k.tape,k.output,k.size,fun x hx=>k.block x ⟨by have:=hx.1;have:=h.size;omega,hx.2.1⟩⟩
theorem M6(h:Kept (Rest fb g w) w w1)(k:Kept (fun x=>x≠g) w1 w2):Kept (Rest fb g w) w w2:=
 h.trans ⟨k.os,k.tape,k.output,k.size,fun x hx=>k.block x hx.2.1⟩
theorem Kg(h:Kept (Rest fb g w) w w1):Kept (Rest fb g w) w (w1.setCell ⟨fb,i,none⟩ u):=h.set (fun h=>h.2.2 rfl) _
theorem bR(w:World)(fb g base:Nat)(bs:List Nat)(A:Option Addr)(c:Nat)(bv:Value)(U:bs.length<=100000)(h8:∀x∈bs,x<=255)(h:Fr w fb g base bs A c 0 0 0 0 0 bv):
 Calls prog 248 #[.pointer (some ⟨fb,0,none⟩)] w fun e w'=>e= .returned (.tuple #[])/\Fr w' fb g base bs A c (hA3 bs) (hE5 bs) (Eo bs) (hN bs) (hP bs) bv/\Kept (Rest fb g w) w w':=by
 have C1:Hid (∀wx,Cur wx g base bs A c 0 0->Calls prog 219 #[.pointer (some ⟨g,0,none⟩)] wx fun e w'=>e= .returned (.int .u8 (Eo bs:Nat))/\Cur w' g base bs A c (hA1 bs) (hE1 bs)/\Kept (BL g wx) wx w'):=fun wx hc=>Uq wx g base bs A c 0 0 U hc;have C2:Hid (1<Eo bs->∀wx,Cur wx g base bs A c (hA1 bs) (hE1 bs)->Calls prog 186 #[.pointer (some ⟨g,0,none⟩), .int .i64 2] wx fun e w'=>e= .returned (.tuple #[])/\Cur w' g base bs A c (hA1 bs) (hE2 bs)/\Kept (fun x=>x≠g) wx w'):=fun h1 wx hc=>by rw[show hE2 bs=Gq (hE1 bs) 2 from Ag h1];exact Hf wx g base bs A c _ _ 2 hc
 have Y:Hid (¬1<Eo bs->hE2 bs=hE1 bs):=fun h1=>Ae h1;have C3:Hid (∀wx,Cur wx g base bs A c (hA1 bs) (hE2 bs)->Calls prog 112 #[.pointer (some ⟨g,0,none⟩), .int .i64 32768] wx fun e w'=>e= .returned (.int .i64 (hN bs:Nat))/\Cur w' g base bs A c (hA2 bs) (hE3 bs)/\Kept (BL g wx) wx w'):=fun wx hc=>I5 wx g base bs A c _ _ 32768 U h8 nB hc;have C4:Hid (∀wx,Cur wx g base bs A c (hA2 bs) (hE3 bs)->Calls prog 112 #[.pointer (some ⟨g,0,none⟩), .int .i64 32768] wx fun e w'=>e= .returned (.int .i64 (hP bs:Nat))/\Cur w' g base bs A c (hA3 bs) (hE4 bs)/\Kept (BL g wx) wx w'):=fun wx hc=>I5 wx g base bs A c _ _ 32768 U h8 nB hc;have C5:Hid (1032*hP bs+64<hN bs->∀wx,Cur wx g base bs A c (hA3 bs) (hE4 bs)->Calls prog 186 #[.pointer (some ⟨g,0,none⟩), .int .i64 6] wx fun e w'=>e= .returned (.tuple #[])/\Cur w' g base bs A c (hA3 bs) (hE5 bs)/\Kept (fun x=>x≠g) wx w'):=fun h1 wx hc=>by rw[show hE5 bs=Gq (hE4 bs) 6 from Ag h1];exact Hf wx g base bs A c _ _ 6 hc
 have Q:Hid (¬1032*hP bs+64<hN bs->hE5 bs=hE4 bs):=fun h1=>Ae h1;have ah:=WA h8;have ag:=N6 h8;have af:=NV h8;generalize Eo bs=wy at *;generalize hN bs=n at *;generalize hP bs=p at *;generalize hA1 bs=a1 at *;generalize hA2 bs=a2 at *;generalize hA3 bs=a3 at *;generalize hE1 bs=e1 at *;generalize hE2 bs=e2 at *;generalize hE3 bs=e3 at *;generalize hE4 bs=e4 at *;generalize hE5 bs=e5 at *;have d0:=h.ptr;have H:=hid h;have s1:IntKind.i64.wrap (wy:Int)=(wy:Int):=nW
 have s2:IntKind.i64.wrap (1032*(p:Int))=1032*(p:Int):=nW
 have s3:IntKind.i64.wrap (1032*(p:Int)+64)=1032*(p:Int)+64:=nW
 clear h h8;go_enter func248,ntmps248;go_wp2_with fail;refine(C1.out _ H.out.cur).mono ?_;rintro e w1 ⟨rfl,ae,Z⟩;have F1:=H.out.on ae Z;have K1:Hid (Kept (Rest fb g w) w w1):=JA (Kept.refl _ _) Z;have f1:=F1.blk.frozen 1;have q1:=F1.blk.iy 1;have F2:=hid (F1.setWay wy);have K2:Hid (Kept (Rest fb g w) w (w1.setCell ⟨fb,1,none⟩ (.int .i64 wy))):=Kg K1.out;have d0:=F1.ptr;clear F1 ae Z K1 H C1;go_upto_region 1 with fail;generalize w1.setCell ⟨fb,1,none⟩ (.int .i64 wy)=w2 at *;clear d0 f1 q1;have d0:=F2.out.ptr;have d1:=F2.out.blk.iy 1;by_cases N:1<wy
 ·have g1:=ja ((1:Int)<wy)
  have ac:=ja (1<wy)
  go_wp2_with fail;refine(C2.out N _ F2.out.cur).mono ?_;rintro e w3 ⟨rfl,ab,aa⟩;have F3:=hid (F2.out.fail ab aa);have K3:Hid (Kept (Rest fb g w) w w3):=M6 K2.out aa;clear ab aa F2 K2 d0 d1 C2 Y N g1 ac;have d0:=F3.out.ptr;go_wp2_with fail;refine(C3.out _ F3.out.cur).mono ?_;rintro e w4 ⟨rfl,M,j⟩;have F4:=F3.out.on M j;have K4:Hid (Kept (Rest fb g w) w w4):=JA K3.out j;have f2:=F4.blk.frozen 2;have q2:=F4.blk.iy 2;have F5:=hid (F4.setN n);have K5:Hid (Kept (Rest fb g w) w (w4.setCell ⟨fb,2,none⟩ (.int .i64 n))):=Kg K4.out;clear M j F3 K3 K4 C3 d0 F4;go_upto_region 4 with fail;generalize w4.setCell ⟨fb,2,none⟩ (.int .i64 n)=w5 at *;clear f2 q2;have d0:=F5.out.ptr;go_wp2_with fail;refine(C4.out _ F5.out.cur).mono ?_;rintro e w6 ⟨rfl,L,G⟩;have F6:=F5.out.on L G;have K6:Hid (Kept (Rest fb g w) w w6):=JA K5.out G;have f3:=F6.blk.frozen 3;have q3:=F6.blk.iy 3;have F7:=hid (F6.setP p);have K7:Hid (Kept (Rest fb g w) w (w6.setCell ⟨fb,3,none⟩ (.int .i64 p))):=Kg K6.out;clear L G F5 K5 K6 C4 d0 F6;go_upto_region 5 with fail;generalize w6.setCell ⟨fb,3,none⟩ (.int .i64 p)=w7 at *;clear f3 q3;have d0:=F7.out.ptr;have d2:=F7.out.blk.iy 2;have d3:=F7.out.blk.iy 3;by_cases i:1032*p+64<n
  ·have g4:=ja (1032*(p:Int)+64<(n:Int));have g5:=ja (1032*p+64<n);go_quiet (fail);have F8:=hid (F7.out.drewN nq);go_wp2_with fail;refine(C5.out i _ F8.out.cur).mono ?_;rintro e w8 ⟨rfl,J,E⟩;have F9:=hid (F8.out.fail J E);have K9:Hid (Kept (Rest fb g w) w w8):=M6 (K7.out.drewN nq) E;clear J E F8 F7 K7 C5 Q d0 d2 d3;go_wp2_with fail;refine bodyPost_end (FD rfl _ _ _) rfl ?_;exact⟨rfl,F9.out,K9.out⟩
  ·have g4:=jb (1032*(p:Int)+64<(n:Int));have g5:=jb (1032*p+64<n);have F8:Hid (Fr w7 fb g base bs A c a3 e5 wy n p bv):=(by rw[Q.out i];exact F7.out);go_quiet (fail);go_wp2_with fail;refine bodyPost_end (FD rfl _ _ _) rfl ?_;exact⟨rfl,F8.out.drewN _,K7.out.drewN _⟩
 ·have g1:=jb ((1:Int)<wy)
  have ac:=jb (1<wy)
  have F3:Hid (Fr w2 fb g base bs A c a1 e2 wy 0 0 bv):=by rw[Y.out N];exact F2.out
  have K3:=K2;obtain⟨w3,rfl⟩:=jc w2;clear F2 K2 C2 Y N;go_wp2_with fail;refine(C3.out _ F3.out.cur).mono ?_;rintro e w4 ⟨rfl,M,j⟩;have F4:=F3.out.on M j;have K4:Hid (Kept (Rest fb g w) w w4):=JA K3.out j;have f2:=F4.blk.frozen 2;have q2:=F4.blk.iy 2;have F5:=hid (F4.setN n);have K5:Hid (Kept (Rest fb g w) w (w4.setCell ⟨fb,2,none⟩ (.int .i64 n))):=Kg K4.out;clear M j F3 K3 K4 C3 d0 F4;go_upto_region 4 with fail;generalize w4.setCell ⟨fb,2,none⟩ (.int .i64 n)=w5 at *;clear f2 q2;have d0:=F5.out.ptr;go_wp2_with fail;refine(C4.out _ F5.out.cur).mono ?_;rintro e w6 ⟨rfl,L,G⟩;have F6:=F5.out.on L G;have K6:Hid (Kept (Rest fb g w) w w6):=JA K5.out G;have f3:=F6.blk.frozen 3;have q3:=F6.blk.iy 3;have F7:=hid (F6.setP p);have K7:Hid (Kept (Rest fb g w) w (w6.setCell ⟨fb,3,none⟩ (.int .i64 p))):=Kg K6.out;clear L G F5 K5 K6 C4 d0 F6;go_upto_region 5 with fail;generalize w6.setCell ⟨fb,3,none⟩ (.int .i64 p)=w7 at *;clear f3 q3;have d0:=F7.out.ptr;have d2:=F7.out.blk.iy 2;have d3:=F7.out.blk.iy 3;by_cases i:1032*p+64<n
  ·have g4:=ja (1032*(p:Int)+64<(n:Int));have g5:=ja (1032*p+64<n);go_quiet (fail);have F8:=hid (F7.out.drewN nq);go_wp2_with fail;refine(C5.out i _ F8.out.cur).mono ?_;rintro e w8 ⟨rfl,J,E⟩;have F9:=hid (F8.out.fail J E);have K9:Hid (Kept (Rest fb g w) w w8):=M6 (K7.out.drewN nq) E;clear J E F8 F7 K7 C5 Q d0 d2 d3;go_wp2_with fail;refine bodyPost_end (FD rfl _ _ _) rfl ?_;exact⟨rfl,F9.out,K9.out⟩
  ·have g4:=jb (1032*(p:Int)+64<(n:Int));have g5:=jb (1032*p+64<n);have F8:Hid (Fr w7 fb g base bs A c a3 e5 wy n p bv):=(by rw[Q.out i];exact F7.out);go_quiet (fail);go_wp2_with fail;refine bodyPost_end (FD rfl _ _ _) rfl ?_;exact⟨rfl,F8.out.drewN _,K7.out.drewN _⟩
end Block
namespace Block
open Go.RowKit Mem Own Canon
open Nums Crc
theorem rest_any(w:World)(fb g base:Nat)(bs:List Nat)(A:Option Addr)(c:Nat)(way n p:Nat)(X:Option Addr)(d:Nat)(ae:bs.length<=100000)(hd:bs.length<=d)(h8:∀x∈bs,x<=255)(hp:p=hP bs)(ht:TabAt w)
 (hx:Row w w X bs.length 1 (kZ .u8 bs))(hX:0<bs.length->∀a,X=some a->a.add 0=a)(an:0<bs.length->∀a,X=some a->a.block≠g/\a.block≠fb)(aa:0≠g/\0≠fb)(al:base<=w.heap.size)
 (h:Fr w fb g base bs A c (hA3 bs) (hE5 bs) way n p (.slice none 0 0)):
 Calls prog 249 #[.pointer (some ⟨fb,0,none⟩), .slice X bs.length d] w fun e w'=>e= .returned (.tuple #[])/\∃v,w'.ownsRow base 5 1 v (Di bs).length (bZ .u8 (Di bs))/\Fr w' fb g base bs A c (hA5 bs) (hE8 bs) way n p v/\Kept (Rest fb g w) w w':=by
 have au:=Y6 h8;have C1:Hid (∀wx,Cur wx g base bs A c (hA3 bs) (hE5 bs)->Calls prog 187 #[.pointer (some ⟨g,0,none⟩),p] wx fun e w'=>∃v,e= .returned v/\w'.ownsRow wx 5 1 v (Di bs).length (bZ .u8 (Di bs))/\Cur w' g base bs A c (hA4 bs) (hE6 bs)/\Kept (BL g wx) wx w'):=fun wx hc=>by subst hp;exact JY wx g base bs A c _ _ (hP bs) ae (by have:=NV h8;omega) hc
 have C2:Hid (∀wx,Cur wx g base bs A c (hA4 bs) (hE6 bs)->Calls prog 187 #[.pointer (some ⟨g,0,none⟩), .int .i64 4] wx fun e w'=>∃v,e= .returned v/\w'.ownsRow wx 5 1 v (BJ bs (hA4 bs) (hE6 bs) 4).length (bZ .u8 (BJ bs (hA4 bs) (hE6 bs) 4))/\Cur w' g base bs A c (hA5 bs) (hE7 bs)/\Kept (BL g wx) wx w'):=fun wx hc=>JY wx g base bs A c _ _ 4 ae nB hc;have C3:Hid (∀wx er,Cur wx g base bs A c (hA5 bs) er->Calls prog 113 #[.pointer (some ⟨g,0,none⟩)] wx fun e w'=>e= .returned (.int .i64 er)/\w'=wx):=fun wx er hc=>Ej wx g base bs A c _ er hc;have C4:Hid (∀wx er,Cur wx g base bs A c (hA5 bs) er->Calls prog 195 #[.pointer (some ⟨g,0,none⟩)] wx fun e w'=>e= .returned (.int .i64 (hA5 bs:Nat))/\w'=wx):=fun wx er hc=>JK wx g base bs A c _ er hc;have ag:∀x∈bs.take (hA5 bs),x<=255:=fun x hx=>h8 x (CN hx);have am:(bs.take (hA5 bs)).length=hA5 bs:=nY
 have ak:hE7 bs=0->0<bs.length:=fun h=>by
  unfold hE7 Cj at h;split at h
  ·contradiction
  ·split at h
   ·cases h
   ·omega
 have KS:=hid (fun(h:hE7 bs=0) wx=>FB (P:=prog) (t:=28) (s:=1) underlying28 (fun _=>by kernel_rfl) X bs.length d .i64 ((hA5 bs:Nat):Int) (hA5 bs) rfl nB (hX (ak h)) wx);have ac:∀wx,Kept (Rest fb g w) w wx->TabAt wx/\Row wx wx X (hA5 bs) 1 (kZ .u8 (bs.take (hA5 bs))):=fun wx hk=>by refine⟨fun i hi=>(World.cell?_of_block (a:=⟨_,i,none⟩) (hk.block _ ⟨ht.lt,aa.1,aa.2⟩)).trans (ht i hi),?_⟩;refine GO (n:=bs.length) ?_ au;intro h0;obtain⟨b,o,e,hb,hc⟩:=hx h0;have ai:=an h0 _ e;refine⟨b,o,e,by have:=hk.size;omega,fun i j hi hj=> ?_⟩;exact(World.cell?_of_block (a:=⟨b,o+(i*1+j),none⟩) (hk.block b ⟨hb,ai.1,ai.2⟩)).trans (hc i j hi hj)
 have C5:Hid (∀wx,Kept (Rest fb g w) w wx->Calls prog 60 #[.slice X (hA5 bs) d] wx (Jb (bs.take (hA5 bs)) wx)):=fun wx hk=>LU wx X (hA5 bs) d _ am nB nB ag (ac wx hk).1 (ac wx hk).2;have C6:Hid (∀wx er e2,Cur wx g base bs A c (hA5 bs) er->Calls prog 186 #[.pointer (some ⟨g,0,none⟩), .int .i64 e2] wx fun e w'=>e= .returned (.tuple #[])/\Cur w' g base bs A c (hA5 bs) (Gq er e2)/\Kept (fun x=>x≠g) wx w'):=fun wx er e2 hc=>Hf wx g base bs A c _ er e2 hc;have E8:Hid ((hE7 bs≠0->hE8 bs=hE7 bs)/\(hE7 bs=0->hE8 bs=Gq 0 (C7 (bs.take (hA5 bs))))):=⟨fun h=>Ag h,fun h=>(Ae (by rw[h];simp)).trans rfl⟩;unfold Jb at C5;have H:=hid h;clear ht hx hX an ak aa am ag ac hp h8 h;generalize hA3 bs=a3 at *;generalize hA4 bs=a4 at *;generalize hA5 bs=a5 at *;generalize hE5 bs=e5 at *;generalize hE6 bs=e6 at *;generalize hE7 bs=e7 at *;generalize hE8 bs=e8 at *;generalize Di bs=body at *;generalize BJ bs a4 e6 4=aq at *;generalize C7 (bs.take a5)=ce at *;generalize Bu (bs.take a5)=co at *;have d0:=H.out.ptr;have d3:=H.out.blk.iy 3;have d4:=H.out.blk.iy 4;have f4:=H.out.blk.frozen 4;go_enter func249,ntmps249;go_upto_region 0 with fail;have F0:=H.out.drew;go_region_held3 (fun wx=>wx.cell? ⟨fb,0,none⟩=some (.pointer (some ⟨g,0,none⟩))/\wx.cell? ⟨fb,3,none⟩=some (.int .i64 p)) (first|exact⟨d0,d3⟩|exact k0|exact k1) (first|(go_at_call 187;(with_reducible refine(C1.out _ F0.cur).mono ?_);rintro e w1 ⟨v,rfl,E,aj,Q⟩;obtain⟨va,vc,rfl⟩:=aZ E;have F1:=F0.on aj Q;have k0:w1.cell? ⟨fb,0,none⟩=some (.pointer (some ⟨g,0,none⟩))/\w1.cell? ⟨fb,3,none⟩=some (.int .i64 p):=⟨F1.ptr,F1.blk.cell 3⟩;have q4:w1.cell? ⟨fb,4,none⟩=some (.slice none 0 0):=F1.blk.cell 4;have qf:w1.frozen? ⟨fb,4,none⟩=false:=F1.blk.frozen 4;have F2:=F1.setB (.slice va body.length vc);have k1:(w1.setCell ⟨fb,4,none⟩ (.slice va body.length vc)).cell? ⟨fb,0,none⟩=some (.pointer (some ⟨g,0,none⟩))/\(w1.setCell ⟨fb,4,none⟩ (.slice va body.length vc)).cell? ⟨fb,3,none⟩=some (.int .i64 p):=⟨F2.ptr,F2.blk.cell 3⟩));have K1:Hid (Kept (Rest fb g w) w (w1.setCell ⟨fb,4,none⟩ (.slice va body.length vc))):=Kg (JA ((Kept.refl _ _).drew) Q);have U:=hid (lZ (Cb (p:=⟨fb,4,none⟩) E (iZ E F1.blk ji) (.slice va body.length vc)) (show w.heap.size<=_ from Am _));have F2:=hid F2;have ax:=Q.size;have aw:(w1.setCell ⟨fb,4,none⟩ (.slice va body.length vc)).heap.size=w1.heap.size:=pR
 generalize w1.setCell ⟨fb,4,none⟩ (.slice va body.length vc)=w2 at *;clear k0 k1 q4 qf E aj Q F1 F0 d0 d3 d4 f4 H C1;have d0:=F2.out.ptr;go_wp2_with fail;refine(C2.out _ F2.out.cur).mono ?_;rintro e w3 ⟨v3,rfl,L,af,Y⟩;obtain⟨ay,av,rfl⟩:=aZ L;have F3:=hid (F2.out.on af Y);have K3:Hid (Kept (Rest fb g w) w w3):=JA K1.out Y;have N:Hid (w3.ownsRow w 5 1 (.slice va body.length vc) body.length (bZ .u8 body)):=eZ U.out (fun x hx=>Y.block x ⟨(Ai U.out x hx).2,fun e=>iZ U.out F2.out.cur.blk ji (hx.trans (AM some e))⟩);clear L af Y F2 K1 U d0 C2;have d0:=F3.out.ptr;go_wp2_with fail;refine(C3.out _ _ F3.out.cur).mono ?_;rintro e w4 ⟨rfl,rfl⟩;by_cases G:e7=0
 ·have hE:=E8.out.2 G;have ks:=KS.out G;subst G;clear KS;go_wp2_with fail;refine(C4.out _ _ F3.out.cur).mono ?_;rintro e w5 ⟨rfl,rfl⟩;go_wp2_with fail;refine(C5.out _ K3.out).mono ?_;rintro e w6 ⟨v6,rfl,J,M⟩;obtain⟨az,a0,rfl⟩:=aZ J;have F6:Hid (Fr w6 fb g base bs A c a5 0 way n p (.slice va body.length vc)):=⟨F3.out.blk.step M,F3.out.cur.step M,F3.out.lo⟩;have K6:Hid (Kept (Rest fb g w) w w6):=K3.out.trans (Kept.of_below M (fun x hx=>by have:=hx.1;have:=K3.out.size;omega));have ab:Hid (w6.ownsRow w 5 1 (.slice va body.length vc) body.length (bZ .u8 body)):=eZ N.out (fun x hx=>M.block x (Ai N.out x hx).2);clear J M F3 K3 N d0 C3 C4 C5;have d0:=F6.out.ptr;go_wp2_with fail;refine(C6.out _ _ ce F6.out.cur).mono ?_;rintro e w7 ⟨rfl,ah,Z⟩;have F7:=hid (F6.out.fail ah Z);have K7:Hid (Kept (Rest fb g w) w w7):=M6 K6.out Z;have ar:Hid (w7.ownsRow w 5 1 (.slice va body.length vc) body.length (bZ .u8 body)):=eZ ab.out (fun x hx=>Z.block x (fun e=>iZ ab.out F6.out.cur.blk ji (hx.trans (AM some e))));have HE:=hid hE;clear ah Z F6 K6 ab d0 C6 hE;go_wp2_with fail;refine bodyPost_end (FD rfl _ _ _) rfl ?_;exact⟨rfl,_,lZ ar.out al,by rw[HE.out];exact F7.out,K7.out⟩
 ·have hE:=E8.out.1 G;have g1:(e7 != 0)=true:=by simpa using G
  have HE:=hid hE;clear hE G;go_wp2_with fail;refine Df (FD rfl _ _ _) rfl ?_;exact⟨rfl,_,lZ N.out al,by rw[HE.out];exact F3.out,K3.out⟩
end Block
namespace Block
open Go.RowKit Mem Own Canon
open Nums Crc
open Huff (Cy Dp L0 tkF Lv Sw Pq Ka)
open Toks (Tk Bd)
theorem UC{body:List Nat}(he:(Cy body n).2=0):∀t∈(Cy body n).1,(0<=t.lit/\t.lit<=255)/\Bd t.lit t.len t.dist=true:=fun t ht=>by have h:=((Pq body n).1 he).1 t ht;exact⟨h.2.1,h.1⟩
theorem aT(ts:List Tk):(ts.length:Int)<=Huff.Cu ts:=by
 induction ts with
 |nil=>simp[Huff.Cu]
 |cons t ts ih=>simp only[Huff.Cu,List.length_cons];omega
theorem Wt{body:List Nat}(he:(Cy body n).2=0):(Cy body n).1.length<=n:=by have h:=((Pq body n).1 he).2;have:=aT (Cy body n).1;omega
def BytesPost(base way n p:Nat)(body:List Nat)(w:World)(e:Ending)(w':World):Prop:=
 ∃v,e= .returned (.tuple #[v, .int .i64 (byE way n p body)])/\w'.ownsRow base 5 1 v (byO way n p body).length (bZ .u8 (byO way n p body))/\Below w w w'
theorem YV(w:World)(fb g base:Nat)(bs:List Nat)(A:Option Addr)(c at_:Nat)(er:Int)(way n p:Nat)(va:Option Addr)(vc:Nat)(body:List Nat)(hn:n<=32768)(hp:p<=32768)(am:body.length<=100000)(h8:∀x∈body,x<=255)(an:base<=w.heap.size)
 (M:w.ownsRow base 5 1 (.slice va body.length vc) body.length (bZ .u8 body))(h:Fr w fb g base bs A c at_ er way n p (.slice va body.length vc)):
 Calls prog 250 #[.pointer (some ⟨fb,0,none⟩)] w (BytesPost base way n p body w):=by
 have d0:=h.ptr;have d1:=h.blk.iy 1;have d2:=h.blk.iy 2;have d3:=h.blk.iy 3;have d4:=h.blk.iy 4;unfold BytesPost;by_cases hw:way=0
 ·subst hw;by_cases ag:n=p
  ·subst ag;have hE:byE 0 n n body=0:=(by unfold byE;rw[Ag rfl,Ae pR]);have hO:byO 0 n n body=body:=(by unfold byO;rw[hE,Ae pR,Ag rfl]);rw[hE,hO];have g1:((n:Int) != (n:Int))=false:=pR;have HO:=hid M;clear h h8 hE hO M;generalize U:body.length=L at *;clear U;go_enter func250,ntmps250;go_wp2_with fail;go_quiet (fail);go_wp2_with fail;go_ret2;exact⟨_,rfl,eZ HO.out (fun x hx=>rfl),below_drewN (Ak _ _) _⟩
  ·have hE:byE 0 n p body=2:=(by unfold byE;rw[Ag rfl,Ag ag]);have hO:byO 0 n p body= []:=(by unfold byO;rw[hE,Ag pR]);rw[hE,hO];have g1:((n:Int) != (p:Int))=true:=p5;clear h h8 hE hO M ag;go_enter func250,ntmps250;go_wp2_with fail;go_quiet (fail);go_wp2_with fail;go_ret2;exact⟨_,rfl,AE _ _ _ _,below_drewN (Ak _ _) _⟩
 ·have g0:((way:Int)==0)=false:=by rw[IF];intro h;simp at h;omega
  have C1:Hid (∀wx,Below w w wx->Calls prog 299 #[.slice va body.length vc,n] wx (Lv (Cy body n) wx)):=fun wx hb=>Sw wx va body.length vc body n nB nB rfl am h8 (Jj M) ((own_row M).below hb |>.mono hb.size);have Y:=UC (body:=body) (n:=n);have Z:=Wt (body:=body) (n:=n);have hE:=show byE way n p body=_ from Ae hw
  have hO:byO way n p body=if byE way n p body≠0 then []else(Lz.FQ (Cy body n).1 n).1:=by unfold byO;rw[Ae hw]
  unfold Lv at C1;generalize Cy body n=R at *;obtain⟨ts,e1⟩:=R;simp only at hE hO C1 Y Z;by_cases aa:e1=0
  ·subst aa;rw[Ae pR]at hE;have Z:=Z rfl;have Y:=Y rfl;have C2:Hid (∀wx A2 c2,Row wx wx A2 ts.length 3 (Toks.G7 ts)->Calls prog 300 #[.slice A2 ts.length c2,n] wx (Lz.LR (Lz.FQ ts n) wx)):=fun wx A2 c2 hr=>Lz.eM wx A2 ts.length c2 ts n nB rfl nB Y hr;unfold Lz.LR at C2;generalize Lz.FQ ts n=P at *;obtain⟨out,e2⟩:=P;simp only at hE hO C2;by_cases ac:e2=0
   ·subst ac;rw[Ae pR]at hE;by_cases hl:out.length<n
    ·rw[Ag hl]at hE;have N:byO way n p body= []:=(by rw[hO,hE,Ag pR]);rw[hE,N];have g5:=ja ((out.length:Int)<n);have g6:=ja (out.length<n);clear hl;have H:=hid h;have hL:body.length=body.length:=rfl;clear h8 hE hO N M hw hL h;generalize U:body.length=L at *;clear U d3;go_enter func250,ntmps250;go_upto_region 5 with fail;go_region_held3 (fun wx=>wx.cell? ⟨fb,4,none⟩=some (.slice va L vc)/\wx.cell? ⟨fb,2,none⟩=some (.int .i64 n)) (first|exact⟨d4,d2⟩|exact k0) (first|(go_at_call 299;(with_reducible refine(C1.out _ qo).mono ?_);rintro e w2 ⟨v2,rfl,i,j⟩;obtain⟨af,ae,rfl⟩:=aZ i;have k0:w2.cell? ⟨fb,4,none⟩=some (.slice va L vc)/\w2.cell? ⟨fb,2,none⟩=some (.int .i64 n):=⟨(H.out.drew.blk.step j).cell 4,(H.out.drew.blk.step j).cell 2⟩));have F2:=hid (⟨H.out.drew.blk.step j,H.out.drew.cur.step j,H.out.lo⟩:Fr w2 fb g base bs A c at_ er way n p (.slice va L vc));have Q:Hid (Below w w w2):=(Ak _ _).drew.trans j;clear j k0 d0 d1 d2 d4 C1 H;have d2:w2.cell? ⟨fb,2,none⟩=some (.int .i64 n):=F2.out.blk.cell 2;have G:=LV i;generalize ts.length=tl at *;go_wp2_with fail;refine(C2.out _ _ _ G).mono ?_;rintro e w3 ⟨v3,rfl,E,J⟩;obtain⟨aj,ah,rfl⟩:=aZ E;have F3:=hid (⟨F2.out.blk.step J,F2.out.cur.step J,F2.out.lo⟩:Fr w3 fb g base bs A c at_ er way n p (.slice va L vc));have ab:Hid (Below w w w3):=Q.out.trans (J.mono Q.out.size);clear J G i C2 F2 d2;have d2:w3.cell? ⟨fb,2,none⟩=some (.int .i64 n):=F3.out.blk.cell 2;generalize out.length=ol at *;go_wp2_with fail;go_ret2;exact⟨_,rfl,AE _ _ _ _,ab.out⟩
    ·rw[Ae hl]at hE;have N:byO way n p body=out:=(by rw[hO,hE,Ae pR]);rw[hE,N];have g5:=jb ((out.length:Int)<n);have g6:=jb (out.length<n);clear hl;have H:=hid h;have hL:body.length=body.length:=rfl;clear h8 hE hO N M hw hL h;generalize U:body.length=L at *;clear U d3;go_enter func250,ntmps250;go_upto_region 5 with fail;go_region_held3 (fun wx=>wx.cell? ⟨fb,4,none⟩=some (.slice va L vc)/\wx.cell? ⟨fb,2,none⟩=some (.int .i64 n)) (first|exact⟨d4,d2⟩|exact k0) (first|(go_at_call 299;(with_reducible refine(C1.out _ qo).mono ?_);rintro e w2 ⟨v2,rfl,i,j⟩;obtain⟨af,ae,rfl⟩:=aZ i;have k0:w2.cell? ⟨fb,4,none⟩=some (.slice va L vc)/\w2.cell? ⟨fb,2,none⟩=some (.int .i64 n):=⟨(H.out.drew.blk.step j).cell 4,(H.out.drew.blk.step j).cell 2⟩));have F2:=hid (⟨H.out.drew.blk.step j,H.out.drew.cur.step j,H.out.lo⟩:Fr w2 fb g base bs A c at_ er way n p (.slice va L vc));have Q:Hid (Below w w w2):=(Ak _ _).drew.trans j;clear j k0 d0 d1 d2 d4 C1 H;have d2:w2.cell? ⟨fb,2,none⟩=some (.int .i64 n):=F2.out.blk.cell 2;have G:=LV i;generalize ts.length=tl at *;go_wp2_with fail;refine(C2.out _ _ _ G).mono ?_;rintro e w3 ⟨v3,rfl,E,J⟩;obtain⟨aj,ah,rfl⟩:=aZ E;have F3:=hid (⟨F2.out.blk.step J,F2.out.cur.step J,F2.out.lo⟩:Fr w3 fb g base bs A c at_ er way n p (.slice va L vc));have ab:Hid (Below w w w3):=Q.out.trans (J.mono Q.out.size);clear J G i C2 F2 d2;have d2:w3.cell? ⟨fb,2,none⟩=some (.int .i64 n):=F3.out.blk.cell 2;have ak:=hid (lZ E (show base<=_ by have:=Q.out.size;omega));clear E;generalize ai:out.length=ol at *;have al:=hid ai;clear ai;go_wp2_with fail;go_ret2;exact⟨_,rfl,by rw[al.out];exact ak.out,ab.out⟩
   ·rw[Ag ac]at hE;have N:byO way n p body= []:=(by rw[hO,hE,Ag ac]);rw[hE,N];have g5:(e2 != 0)=true:=(by simpa using ac);clear ac;have H:=hid h;have hL:body.length=body.length:=rfl;clear h8 hE hO N M hw hL h;generalize U:body.length=L at *;clear U d3;go_enter func250,ntmps250;go_upto_region 5 with fail;go_region_held3 (fun wx=>wx.cell? ⟨fb,4,none⟩=some (.slice va L vc)/\wx.cell? ⟨fb,2,none⟩=some (.int .i64 n)) (first|exact⟨d4,d2⟩|exact k0) (first|(go_at_call 299;(with_reducible refine(C1.out _ qo).mono ?_);rintro e w2 ⟨v2,rfl,i,j⟩;obtain⟨af,ae,rfl⟩:=aZ i;have k0:w2.cell? ⟨fb,4,none⟩=some (.slice va L vc)/\w2.cell? ⟨fb,2,none⟩=some (.int .i64 n):=⟨(H.out.drew.blk.step j).cell 4,(H.out.drew.blk.step j).cell 2⟩));have F2:=hid (⟨H.out.drew.blk.step j,H.out.drew.cur.step j,H.out.lo⟩:Fr w2 fb g base bs A c at_ er way n p (.slice va L vc));have Q:Hid (Below w w w2):=(Ak _ _).drew.trans j;clear j k0 d0 d1 d2 d4 C1 H;have d2:w2.cell? ⟨fb,2,none⟩=some (.int .i64 n):=F2.out.blk.cell 2;have G:=LV i;generalize ts.length=tl at *;go_wp2_with fail;refine(C2.out _ _ _ G).mono ?_;rintro e w3 ⟨v3,rfl,E,J⟩;obtain⟨aj,ah,rfl⟩:=aZ E;have F3:=hid (⟨F2.out.blk.step J,F2.out.cur.step J,F2.out.lo⟩:Fr w3 fb g base bs A c at_ er way n p (.slice va L vc));have ab:Hid (Below w w w3):=Q.out.trans (J.mono Q.out.size);clear J G i C2 F2 d2;clear E;generalize out.length=ol at *;go_wp2_with fail;go_ret2;exact⟨_,rfl,AE _ _ _ _,ab.out⟩
  ·rw[Ag aa]at hE;have N:byO way n p body= []:=(by rw[hO,hE,Ag aa]);rw[hE,N];have g1:(e1 != 0)=true:=(by simpa using aa);clear aa Z Y;have H:=hid h;have hL:body.length=body.length:=rfl;clear h8 hE hO N M hw hL h;generalize U:body.length=L at *;clear U d3;go_enter func250,ntmps250;go_upto_region 5 with fail;go_region_held3 (fun wx=>wx.cell? ⟨fb,4,none⟩=some (.slice va L vc)/\wx.cell? ⟨fb,2,none⟩=some (.int .i64 n)) (first|exact⟨d4,d2⟩|exact k0) (first|(go_at_call 299;(with_reducible refine(C1.out _ qo).mono ?_);rintro e w2 ⟨v2,rfl,i,j⟩;obtain⟨af,ae,rfl⟩:=aZ i;have k0:w2.cell? ⟨fb,4,none⟩=some (.slice va L vc)/\w2.cell? ⟨fb,2,none⟩=some (.int .i64 n):=⟨(H.out.drew.blk.step j).cell 4,(H.out.drew.blk.step j).cell 2⟩));have F2:=hid (⟨H.out.drew.blk.step j,H.out.drew.cur.step j,H.out.lo⟩:Fr w2 fb g base bs A c at_ er way n p (.slice va L vc));have Q:Hid (Below w w w2):=(Ak _ _).drew.trans j;clear j k0 d0 d1 d2 d4 C1 H;clear i;go_wp2_with fail;go_ret2;exact⟨_,rfl,AE _ _ _ _,Q.out⟩
end Block
namespace Block
open Go.RowKit Mem Own Canon
open Nums Crc
open Toks (Tk Bd)
theorem R4(most:Int):∀ (ts:List Tk) (out:List Nat),(out.length:Int)<=most->((Lz.Fu most out ts).1.length:Int)<=most
 | [],out,h=>h
 |t :: ts,out,h=>by
  rw[Lz.Fu];split
  ·rename_i he;refine R4 most ts _ ?_;unfold Lz.G5 at he;split at he
   ·split at he
    ·omega
    ·split at he
     ·omega
     ·split
      ·rw[Aj];simp;omega
      ·rw[Lz.ME];omega
   ·omega
  ·simp;omega
theorem Z7(ts:List Tk)(n:Nat):(Lz.FQ ts n).1.length<=n:=by
 unfold Lz.FQ;split
 ·simp
 ·have:=R4 n ts [] pR;omega
theorem Vn(bs:List Nat):(Di bs).length<=bs.length:=by
 unfold Di BJ;split
 ·simp
 ·split
  ·simp
  ·simp;omega
theorem PF{bs:List Nat}(h8:∀x∈bs,x<=255):(opO bs).length<=max 32768 bs.length:=by
 have h1:=Vn bs;have h2:=Z7 (Huff.Cy (Di bs) (hN bs)).1 (hN bs);have h3:=N6 h8;unfold opO byO;split
 ·simp
 ·split
  ·simp
  ·split<;>omega
def OW(bs:List Nat)(w:World)(e:Ending)(w':World):Prop:=
 ∃v1 v2,e= .returned (.tuple #[v1,v2, .int .i64 (opE bs)])/\Below w w w'/\(opE bs=0->hE8 bs=0/\∃fb g A c bv va vc,v1= .pointer (some ⟨fb,0,none⟩)/\v2= .slice va (opO bs).length vc/\Fr w' fb g w bs A c (hA5 bs) 0 (Eo bs) (hN bs) (hP bs) bv/\w'.ownsRow w 5 1 v2 (opO bs).length (bZ .u8 (opO bs)))
theorem ZN(w:World)(bs:List Nat)(X:Option Addr)(d:Nat)(N:bs.length<=100000)(hd:bs.length<=d)(hX:X=none->bs.length=0/\d=0)(U:0<bs.length->∀a,X=some a->a.add 0=a/\a.block<w.heap.size)(h8:∀x∈bs,x<=255)(ht:TabAt w)(hx:Row w w X bs.length 1 (kZ .u8 bs)):
 Calls prog 200 #[.slice X bs.length d] w (OW bs w):=by
 have C1:=hid (Nums.new_any w X bs.length d bs rfl N hX hx);have C2:Hid (∀wx fb g B e (h:Fr wx fb g w bs B e 0 0 0 0 0 (.slice none 0 0)),Calls prog 248 #[.pointer (some ⟨fb,0,none⟩)] wx fun e' w'=>e'= .returned (.tuple #[])/\Fr w' fb g w bs B e (hA3 bs) (hE5 bs) (Eo bs) (hN bs) (hP bs) (.slice none 0 0)/\Kept (Rest fb g wx) wx w'):=fun wx fb g B e h=>bR wx fb g w bs B e _ N h8 h;have C3:Hid (∀wx fb g B e (hb:Below w w wx) (h:Fr wx fb g w bs B e (hA3 bs) (hE5 bs) (Eo bs) (hN bs) (hP bs) (.slice none 0 0)),Calls prog 249 #[.pointer (some ⟨fb,0,none⟩), .slice X bs.length d] wx fun e' w'=>e'= .returned (.tuple #[])/\∃v,w'.ownsRow w 5 1 v (Di bs).length (bZ .u8 (Di bs))/\Fr w' fb g w bs B e (hA5 bs) (hE8 bs) (Eo bs) (hN bs) (hP bs) v/\Kept (Rest fb g wx) wx w'):=fun wx fb g B e hb h=>Block.rest_any wx fb g w bs B e _ _ _ X d N hd h8 rfl (ht.below hb ht.lt) ((hx.below hb).mono hb.size) (fun h0 a ha=>(U h0 a ha).1) (fun h0 a ha=>by have:=(U h0 a ha).2;have:=h.cur.lo;have:=h.lo;omega) (by have:=ht.lt;have:=h.cur.lo;have:=h.lo;omega) hb.size h;have C4:Hid (∀wx g B e a er (h:Cur wx g w bs B e a er),Calls prog 113 #[.pointer (some ⟨g,0,none⟩)] wx fun e' w'=>e'= .returned (.int .i64 er)/\w'=wx):=fun wx g B e a er h=>Ej wx g w bs B e a er h;have ax:=Vn bs;have ac:∀x∈Di bs,x<=255:=fun x hx=>h8 x (Sh hx);have C5:Hid (∀wx fb g B e a er va vc (hb:w.heap.size<=wx.heap.size) (ho:wx.ownsRow w 5 1 (.slice va (Di bs).length vc) (Di bs).length (bZ .u8 (Di bs))) (h:Fr wx fb g w bs B e a er (Eo bs) (hN bs) (hP bs) (.slice va (Di bs).length vc)),Calls prog 250 #[.pointer (some ⟨fb,0,none⟩)] wx (BytesPost w (Eo bs) (hN bs) (hP bs) (Di bs) wx)):=fun wx fb g B e a er va vc hb ho h=>YV wx fb g w bs B e a er _ _ _ va vc _ (N6 h8) (NV h8) nB ac hb ho h;unfold BytesPost at C5;have ag:(hE8 bs≠0->opE bs=hE8 bs)/\(hE8 bs=0->opE bs=byE (Eo bs) (hN bs) (hP bs) (Di bs)):=⟨fun h=>Ag h,fun h=>Ae (by rw[h];simp)⟩;have ab:opE bs=0->opO bs=byO (Eo bs) (hN bs) (hP bs) (Di bs):=fun h=>Ae (by rw[h];simp);have ah:=hid ag;have al:=hid ab;clear ht hx hX U h8 ac ag ab;unfold OW;go_enter func200,ntmps200;go_wp2_with fail;refine C1.out.mono ?_;rintro e w1 ⟨g,B,dd,rfl,J,Q⟩;have af:=Q.size;have aw:=J.blk.lt
 have HF:Hid (Fr (w1.alloc (.cells #[.pointer (some ⟨g,0,none⟩),jd,jd,jd,()] 262)) w1 g w bs B dd 0 0 0 0 0 (.slice none 0 0)):=
  ⟨Blk.made _ _ _,J.step (cZ (Ak _ _)),af⟩
 have HB:Hid (Below w w (w1.alloc (.cells #[.pointer (some ⟨g,0,none⟩),jd,jd,jd,()] 262))):=mZ af Q;have hg:w.heap.size<=g:=J.lo;go_upto_region 2 with fail;generalize w1.alloc (.cells #[.pointer (some ⟨g,0,none⟩),jd,jd,jd,()] 262)=w2 at *;generalize w1.heap.size=fb at *;clear J Q aw C1;go_wp2_with fail;refine(C2.out _ _ _ _ _ HF.out).mono ?_;rintro e w3 ⟨rfl,aa,ai⟩;have L:Hid (Below w w w3):=HB.out.trans (ai.below (fun x hx=>⟨by have:=HB.out.size;omega,nB,nB⟩));have F3:=hid aa;clear aa ai HF HB C2;go_wp2_with fail;refine(C3.out _ _ _ _ _ L.out F3.out).mono ?_;rintro e w4 ⟨rfl,v4,E,Y,ae⟩;obtain⟨aj,Z,rfl⟩:=aZ E;have G:Hid (Below w w w4):=L.out.trans (ae.below (fun x hx=>⟨by have:=L.out.size;omega,nB,nB⟩));have F4:=hid Y;have ak:=hid E;have d0:=Y.ptr;clear Y ae E F3 L C3;go_wp2_with fail;refine(C4.out _ _ _ _ _ _ F4.out.cur).mono ?_;rintro e w5 ⟨rfl,rfl⟩;by_cases i:hE8 bs=0
 ·have hE:=ah.out.2 i;have F5:Hid (Fr w5 fb g w bs B dd (hA5 bs) 0 (Eo bs) (hN bs) (hP bs) (.slice aj (Di bs).length Z)):=by rw[<-i];exact F4.out
  rw[i];have av:=hid i;have HE:=hid hE;clear i hE F4;go_wp2_with fail;refine(C5.out _ _ _ _ _ _ _ _ _ G.out.size ak.out F5.out).mono ?_;rintro e w6 ⟨v6,rfl,j,M⟩;obtain⟨aq,an,rfl⟩:=aZ j;have au:Hid (Below w w w6):=G.out.trans (M.mono G.out.size);have F6:Hid (Fr w6 fb g w bs B dd (hA5 bs) 0 (Eo bs) (hN bs) (hP bs) (.slice aj (Di bs).length Z)):=⟨F5.out.blk.step M,F5.out.cur.step M,F5.out.lo⟩;have am:=hid j;clear j M F5 G ak d0 C4 C5;go_wp2_with fail
  go_ret3
  refine⟨_,_,by rw[HE.out];rfl,au.out,fun h0=>⟨av.out,fb,g,B,dd,_,aq,an,rfl,?_,F6.out,?_⟩⟩
  ·rw[al.out h0];rfl
  ·rw[al.out h0];exact am.out
 ·have hE:=ah.out.1 i;have g1:(hE8 bs != 0)=true:=by simpa using i
  have HE:=hid hE;have ar:=hid i;clear i hE;go_wp2_with fail
  go_ret3
  exact⟨_,_,by rw[HE.out];rfl,G.out,fun h0=>absurd (HE.out.symm.trans h0) ar.out⟩
def Nd(bs:List Nat)(w:World)(e:Ending)(w':World):Prop:=
 ∃v,e= .returned (.tuple #[v, .int .i64 (opA bs), .int .i64 (opE bs)])/\w'.ownsRow w 5 1 v (opO bs).length (bZ .u8 (opO bs))/\Below w w w'
theorem Ub(w:World)(bs:List Nat)(X:Option Addr)(n d:Nat)(hn:bs.length=n)(Q:n<=100000)(hd:n<=d)(hX:X=none->n=0/\d=0)(J:0<bs.length->∀a,X=some a->a.add 0=a/\a.block<w.heap.size)(h8:∀x∈bs,x<=255)(ht:TabAt w)(hx:Row w w X n 1 (kZ .u8 bs)):
 Calls prog 122 #[.slice X n d] w (Nd bs w):=by
 subst hn;have C1:=hid (ZN w bs X d Q hd hX J h8 ht hx);unfold OW at C1;have Y:=PF h8;unfold Nd;by_cases he:opE bs=0
 ·rw[he]at C1 ⊢;have hA:opA bs=hA5 bs:=Ae (by rw[he];simp);rw[hA];clear ht hx hX J h8 hA he hd;generalize opO bs=out at *;generalize hA5 bs=a5 at *;go_enter func122,ntmps122;go_wp2_with fail;refine C1.out.mono ?_;rintro e w1 ⟨v1,v2,rfl,i,j⟩;obtain⟨_,fb,g,B,dd,bv,va,vc,rfl,rfl,hf,h⟩:=j jn;have N:=Jj h;have E:=own_row h;have D1:Hid (∀wx,Below w1 w1 wx->Calls prog 100 #[.slice va out.length vc] wx fun e' w'=>∃v,e'= .returned v/\w'.ownsRow wx 5 1 v out.length (bZ .u8 out)/\Below wx wx w'):=fun wx hb=>IM wx va _ vc _ rfl nB N ((E.below hb).mono hb.size);have D2:Hid (∀wx,Below w1 w1 wx->Calls prog 195 #[.pointer (some ⟨g,0,none⟩)] wx fun e' w'=>e'= .returned (.int .i64 (a5:Nat))/\w'=wx):=fun wx hb=>JK wx g w bs B dd _ 0 (hf.cur.step hb);have d0:w1.cell? ⟨fb,0,none⟩=some (.pointer (some ⟨g,0,none⟩)):=hf.ptr;have KP:Hid (∀wx,Below w1 w1 wx->wx.cell? ⟨fb,0,none⟩=some (.pointer (some ⟨g,0,none⟩))):=fun wx hb=>(hb.cell (p:=⟨fb,0,none⟩) hf.blk.lt).trans hf.ptr;have G:=hid i;clear i hf h N E C1 j;generalize M:out.length=ol at *;have Z:=hid M;clear M;go_upto_region 4 with fail;have b0:Below w1 w1 w1.drew:=(Ak _ _).drew;go_region_held3 (fun wx=>wx.cell? ⟨fb,0,none⟩=some (.pointer (some ⟨g,0,none⟩))) (first|exact d0|exact KP.out _ jf) (first|(go_at_call 100;(with_reducible refine(D1.out _ jf).mono ?_);rintro e' w' ⟨v,rfl,h,hb⟩;have bN:Below w1 w1 w':=zZ jf (Below.size jf) jf)|(go_at_call 195;(with_reducible refine(D2.out _ jf).mono ?_);rintro e' w' ⟨rfl,rfl⟩));have hz:=G.out.size;have U:Hid (Below w w w'):=G.out.trans (bN.mono hz);have L:Hid (w'.ownsRow w 5 1 v ol (bZ .u8 out)):=lZ h (show w.heap.size<=w1.heap.size from hz);obtain⟨aa,ab,rfl⟩:=aZ L.out;clear h hb bN b0 D1 D2 KP G d0;go_wp2_with fail
  go_ret3
  exact⟨_,rfl,by rw[Z.out];exact L.out,U.out⟩
 ·have hO:opO bs= []:=Ag he;have hA:opA bs=0:=Ag he;rw[hO,hA];have g1:(opE bs != 0)=true:=by simpa using he
  generalize opE bs=er at *;clear ht hx hX J h8 hO hA Y hd he;go_enter func122,ntmps122;go_wp2_with fail;refine C1.out.mono ?_;rintro e w1 ⟨v1,v2,rfl,i,j⟩;clear j C1;go_wp2_with fail
  go_ret3
  exact⟨_,rfl,AE _ _ _ _,i⟩
end Block
end Go.Proofs.YtfgdoknipbpfhaaGreatDoor

/- The walks of opts.Marked and the reference's. The head of an archive o -/
import Derived.Test.YtbgoibedicbkjaaGreatDoorZTwoOpens19
import Derived.Test.YtbgoibedicbkjaaGreatDoorZTwoOpens30
import Derived.WideShapes
namespace Go.Proofs.YtbgoibedicbkjaaGreatDoor end Go.Proofs.YtbgoibedicbkjaaGreatDoor open Go.Proofs.YtbgoibedicbkjaaGreatDoor
open Go.Lib (hid)
set_option maxHeartbeats 4000000
set_option maxRecDepth 100000
namespace Go.Proofs.YtbgoibedicbkjaaGreatDoor.One
open Go.RowKit Go.WideShapes Mem Own Canon NumPut Nums Opts
open Go.Proofs.YtbgoibedicbkjaaGreatDoor.Crc (uZ hbZ fcZ)
def jdZ(bs:List Nat):Int:=if bs.length<5 then 1 else if bs.take 4≠ [70,73,82,75]then 3 else if bs.getD 4 0<1∨3<bs.getD 4 0 then 4 else 0
def ueZ(bs:List Nat):Nat:=if jdZ bs=0 then bs.getD 4 0 else 0
theorem slZb{bs:List Nat}(h:5<=bs.length):bs.take 4= [bs.getD 0 0,bs.getD 1 0,bs.getD 2 0,bs.getD 3 0]:=by
 match bs,h with
 |a :: b :: c :: d :: t,_=>rfl
theorem yqZ{bs:List Nat}(h:bs.length<5):jdZ bs=1/\ueZ bs=0:=by
 have e:jdZ bs=1:=if_pos h
 exact⟨e,by unfold ueZ;rw[if_neg (by rw[e];decide)]⟩
theorem knZ{bs:List Nat}(h:¬bs.length<5)(h2:bs.take 4≠ [70,73,82,75]):jdZ bs=3/\ueZ bs=0:=by
 have e:jdZ bs=3:=by unfold jdZ;rw[if_neg h,if_pos h2]
 exact⟨e,by unfold ueZ;rw[if_neg (by rw[e];decide)]⟩
theorem elZ{bs:List Nat}(h:¬bs.length<5)(h2:bs.take 4= [70,73,82,75])(h3:bs.getD 4 0<1∨3<bs.getD 4 0):jdZ bs=4/\ueZ bs=0:=by
 have e:jdZ bs=4:=by unfold jdZ;rw[if_neg h,if_neg (by simpa using h2),if_pos h3]
 exact⟨e,by unfold ueZ;rw[if_neg (by rw[e];decide)]⟩
theorem utZ{bs:List Nat}(h:¬bs.length<5)(h2:bs.take 4= [70,73,82,75])(h3:¬(bs.getD 4 0<1∨3<bs.getD 4 0)):jdZ bs=0/\ueZ bs=bs.getD 4 0:=by
 have e:jdZ bs=0:=by unfold jdZ;rw[if_neg h,if_neg (by simpa using h2),if_neg h3]
 exact⟨e,by unfold ueZ;rw[if_pos e]⟩
theorem zoZ(w:World)(A:Option Addr)(n c:Nat)(bs:List Nat)(hn:bs.length=n)(hle:n<=100000)(ha:Row w w.heap.size A n 1 (mZ .u8 bs)):
 Calls Tryz.prog 36 #[.slice A n c] w fun e w'=>e= .returned (.tuple #[.int .i64 (ueZ bs:Nat), .int .i64 (jdZ bs)])/\w'=w:=by
 by_cases h5:n<5
 ·obtain⟨e1,e2⟩:=yqZ (bs:=bs) (by omega)
  rw[e1,e2]
  have g1:decide ((n:Int)<5)=true:=by simp;omega
  have g2:decide (n<5)=true:=by simp;omega
  clear e1 e2 ha hn
  go_enter Tryz.func36,Tryz.ntmps36
  go_wp2_with fail
  go_ret2
  exact⟨rfl,rfl⟩
 ·obtain⟨b,off,rfl,hb,hc⟩:=ha (by omega)
  have g1:decide ((n:Int)<5)=false:=by simp;omega
  have g2:decide (n<5)=false:=by simp;omega
  have c0:=hc 0 0 (by omega) (by omega)
  have c1:=hc 1 0 (by omega) (by omega)
  have c2:=hc 2 0 (by omega) (by omega)
  have c3:=hc 3 0 (by omega) (by omega)
  have c4:=hc 4 0 (by omega) (by omega)
  simp only[mZ,Nat.mul_one,Nat.add_zero]at c0 c1 c2 c3 c4
  have i0:decide ((0:Int)<(n:Int))=true:=by simp;omega
  have i1:(1:Int)<(n:Int):=by omega
  have i2:(2:Int)<(n:Int):=by omega
  have i3:(3:Int)<(n:Int):=by omega
  have i4:(4:Int)<(n:Int):=by omega
  have h4:=slZb (bs:=bs) (by omega)
  have m1:=fun h2=>knZ (bs:=bs) (by omega) h2
  have m2:=fun h2 h3=>elZ (bs:=bs) (by omega) h2 h3
  have m3:=fun h2 h3=>utZ (bs:=bs) (by omega) h2 h3
  rw[h4]at m1 m2 m3
  generalize bs.getD 0 0=x0 at *
  generalize bs.getD 1 0=x1 at *
  generalize bs.getD 2 0=x2 at *
  generalize bs.getD 3 0=x3 at *
  generalize bs.getD 4 0=x4 at *
  have M1:=hid m1
  have M2:=hid m2
  have M3:=hid m3
  clear m1 m2 m3 h4 hc ha hn
  by_cases q0:x0=70
  ·subst q0
   by_cases q1:x1=73
   ·subst q1
    by_cases q2:x2=82
    ·subst q2
     by_cases q3:x3=75
     ·subst q3
      by_cases q4:x4<1∨3<x4
      ·obtain⟨e1,e2⟩:=M2.out rfl q4
       rw[e1,e2]
       clear M1 M2 M3 e1 e2
       by_cases q5:x4<1
       ·have g3:decide ((x4:Int)<1)=true:=by simp;omega
        have g3':decide (x4<1)=true:=by simp;omega
        have g4:decide ((3:Int)<(x4:Int))=false:=by simp;omega
        have g4':decide (3<x4)=false:=by simp;omega
        clear q4 q5
        go_enter Tryz.func36,Tryz.ntmps36
        go_wp2_with fail
        go_ret2
        exact⟨rfl,rfl⟩
       ·have g3:decide ((x4:Int)<1)=false:=by simp;omega
        have g3':decide (x4<1)=false:=by simp;omega
        have g4:decide ((3:Int)<(x4:Int))=true:=by simp;omega
        have g4':decide (3<x4)=true:=by simp;omega
        clear q4 q5
        go_enter Tryz.func36,Tryz.ntmps36
        go_wp2_with fail
        go_ret2
        exact⟨rfl,rfl⟩
      ·obtain⟨e1,e2⟩:=M3.out rfl q4
       rw[e1,e2]
       have g3:decide ((x4:Int)<1)=false:=by simp;omega
       have g3':decide (x4<1)=false:=by simp;omega
       have g4:decide ((3:Int)<(x4:Int))=false:=by simp;omega
       have g4':decide (3<x4)=false:=by simp;omega
       have s1:IntKind.i64.wrap (x4:Int)=(x4:Int):=by rw[IntWalk.i64_in _ (by omega)]
       clear M1 M2 M3 e1 e2 q4
       go_enter Tryz.func36,Tryz.ntmps36
       go_wp2_with fail
       go_ret2
       exact⟨rfl,rfl⟩
     ·obtain⟨e1,e2⟩:=M1.out (by simp[q3])
      rw[e1,e2]
      have g5:((x3:Int) != 75)=true:=by simp;omega
      clear M1 M2 M3 e1 e2 q3
      go_enter Tryz.func36,Tryz.ntmps36
      go_wp2_with fail
      go_ret2
      exact⟨rfl,rfl⟩
    ·obtain⟨e1,e2⟩:=M1.out (by simp[q2])
     rw[e1,e2]
     have g5:((x2:Int) != 82)=true:=by simp;omega
     clear M1 M2 M3 e1 e2 q2
     go_enter Tryz.func36,Tryz.ntmps36
     go_wp2_with fail
     go_ret2
     exact⟨rfl,rfl⟩
   ·obtain⟨e1,e2⟩:=M1.out (by simp[q1])
    rw[e1,e2]
    have g5:((x1:Int) != 73)=true:=by simp;omega
    clear M1 M2 M3 e1 e2 q1
    go_enter Tryz.func36,Tryz.ntmps36
    go_wp2_with fail
    go_ret2
    exact⟨rfl,rfl⟩
  ·obtain⟨e1,e2⟩:=M1.out (by simp[q0])
   rw[e1,e2]
   have g5:((x0:Int) != 70)=true:=by simp;omega
   clear M1 M2 M3 e1 e2 q0
   go_enter Tryz.func36,Tryz.ntmps36
   go_wp2_with fail
   go_ret2
   exact⟨rfl,rfl⟩
theorem zqZ(w:World)(A:Option Addr)(n c:Nat)(bs:List Nat)(hn:bs.length=n)(hle:n<=100000)(hcap:n<=c)(h8:∀x∈bs,x<=255)(ha:Row w w.heap.size A n 1 (mZ .u8 bs)):
 Calls Tryz.prog 33 #[.slice A n c] w fun e w'=>e= .returned (.tuple #[.int .i64 (ueZ bs:Nat), .int .i64 (jdZ bs)])/\w'=w:=by
 by_cases h5:n<5
 ·obtain⟨e1,e2⟩:=yqZ (bs:=bs) (by omega)
  rw[e1,e2]
  have g1:decide ((n:Int)<=4)=true:=by simp;omega
  have g2:decide (n<=4)=true:=by simp;omega
  clear e1 e2 ha hn
  go_enter Tryz.func33,Tryz.ntmps33
  go_wp2_with fail
  go_ret2
  exact⟨rfl,rfl⟩
 ·have g1:decide ((n:Int)<=4)=false:=by simp;omega
  have g2:decide (n<=4)=false:=by simp;omega
  have i4:(4:Int)<(n:Int):=by omega
  have hA:∀a,A=some a->a.add 0=a:=by
   obtain⟨b,off,rfl,_⟩:=ha (by omega)
   intro a h
   injection h with h
   subst h
   rw[cdZ,Nat.add_zero]
  have ks:=fun wx=>fcZ (P:=Tryz.prog) (t:=22) (s:=1) Tryz.underlying22 (fun _=>by kernel_rfl) A n c .i64 (4:Int) 4 rfl (by omega) hA wx
  have cv:=nrZ (c:=c) (hbZ ha (show 4<=n by omega)) (by rw[List.length_take];omega)
  obtain⟨b,off,rfl,hb,hc⟩:=ha (by omega)
  have c4:=hc 4 0 (by omega) (by omega)
  simp only[mZ,Nat.mul_one,Nat.add_zero]at c4
  have m1:=fun h2=>knZ (bs:=bs) (by omega) h2
  have m2:=fun h2 h3=>elZ (bs:=bs) (by omega) h2 h3
  have m3:=fun h2 h3=>utZ (bs:=bs) (by omega) h2 h3
  have ht8:∀x∈bs.take 4,x<=255:=fun x hx=>h8 x (List.mem_of_mem_take hx)
  have hx4:bs.getD 4 0<=255:=by
   rw[List.getD_eq_getElem?_getD,List.getElem?_eq_getElem (show 4<bs.length by omega)]
   exact h8 _ (List.getElem_mem _)
  generalize bs.getD 4 0=x4 at *
  generalize bs.take 4=T at *
  have M1:=hid m1
  have M2:=hid m2
  have M3:=hid m3
  have s1:IntKind.i64.wrap (x4:Int)=(x4:Int):=by rw[IntWalk.i64_in _ (by omega)]
  have DW:=hid (gjZ w (x4:Int) 1 3)
  have H8:=hid ht8
  clear m1 m2 m3 hc hn h8 ht8 hA
  by_cases hT:T= [70,73,82,75]
  ·have gE:((xhZ T).toList==([70,73,82,75]:List UInt8))=true:=by rw[hT,ByteArray.toList_eq];rfl
   by_cases q4:x4<1∨3<x4
   ·obtain⟨e1,e2⟩:=M2.out hT q4
    rw[e1,e2]
    rw[show decide ((1:Int)<=(x4:Int)/\(x4:Int)<=3)=false by simp;omega]at DW
    clear M1 M2 M3 e1 e2 q4 hT
    go_enter Tryz.func33,Tryz.ntmps33
    go_wp2_with fail
    refine DW.out.mono ?_
    rintro e w1 ⟨rfl,rfl⟩
    go_wp2_with fail
    go_ret2
    exact⟨rfl,rfl⟩
   ·obtain⟨e1,e2⟩:=M3.out hT q4
    rw[e1,e2]
    rw[show decide ((1:Int)<=(x4:Int)/\(x4:Int)<=3)=true by simp;omega]at DW
    clear M1 M2 M3 e1 e2 q4 hT
    go_enter Tryz.func33,Tryz.ntmps33
    go_wp2_with fail
    refine DW.out.mono ?_
    rintro e w1 ⟨rfl,rfl⟩
    go_wp2_with fail
    go_ret2
    exact⟨rfl,rfl⟩
  ·obtain⟨e1,e2⟩:=M1.out hT
   rw[e1,e2]
   have gE:((xhZ T).toList==([70,73,82,75]:List UInt8))=false:=by
    rw[beq_eq_false_iff_ne,ByteArray.toList_eq]
    intro h
    refine hT ?_
    have h2:xhZ T=(⟨#[70,73,82,75]⟩:ByteArray):=bytes_inj h
    have h3:=congrArg sB h2
    rw[xjZb H8.out]at h3
    exact h3
   clear M1 M2 M3 e1 e2 hT
   go_enter Tryz.func33,Tryz.ntmps33
   go_wp2_with fail
   go_ret2
   exact⟨rfl,rfl⟩
end Go.Proofs.YtbgoibedicbkjaaGreatDoor.One
namespace Go.Proofs.YtbgoibedicbkjaaGreatDoor.Body
open Go.RowKit Mem Own Canon Nums Crc Opts
open Go.Proofs.YtbgoibedicbkjaaGreatDoor.One (jdZ ueZ)
def tA0(ls:List Nat):Nat:=takeA ls 0 0 5
def tE0(ls:List Nat):Int:=gbZ ls 0 0 5
def tS(ls:List Nat):Nat:=tZ 32768 ls (tA0 ls) (tE0 ls)
def tA1(ls:List Nat):Nat:=pZ 32768 ls (tA0 ls) (tE0 ls)
def tE1(ls:List Nat):Int:=qZ 32768 ls (tA0 ls) (tE0 ls)
def tP(ls:List Nat):Nat:=yeZ ls (tA1 ls) (tE1 ls)
def tA2(ls:List Nat):Nat:=takeA ls (tA1 ls) (tE1 ls) 1
def tE2(ls:List Nat):Int:=gbZ ls (tA1 ls) (tE1 ls) 1
def tF2(ls:List Nat):Int:=if 1<tP ls then ygZ (tE2 ls) 2 else tE2 ls
def tK(ls:List Nat):Nat:=tZ 64 ls (tA2 ls) (tF2 ls)
def tA3(ls:List Nat):Nat:=pZ 64 ls (tA2 ls) (tF2 ls)
def tE3(ls:List Nat):Int:=qZ 64 ls (tA2 ls) (tF2 ls)
def tA4(ls:List Nat):Nat:=takeA ls (tA3 ls) (tE3 ls) 4
def tE4(ls:List Nat):Int:=gbZ ls (tA3 ls) (tE3 ls) 4
def tO(ls:List Nat):Opt:=⟨(tS ls:Nat),decide (tP ls=1),(tK ls:Nat),0,0,0⟩
def gcZ(ls:List Nat):Int:=if tE4 ls≠0 then tE4 ls else if icZ (ls.take (tA4 ls))≠0 then icZ (ls.take (tA4 ls))else mdZ (tO ls)
def sfZ(ls:List Nat):Nat:=if tE4 ls≠0 then 0 else if icZ (ls.take (tA4 ls))≠0 then 0 else tA4 ls
def ngZ(ls:List Nat):Int:=if jdZ ls≠0 then jdZ ls else if ueZ ls≠2 then 4 else if gcZ ls≠0 then gcZ ls else idZ (tO ls) (ls.drop (tA4 ls))
end Go.Proofs.YtbgoibedicbkjaaGreatDoor.Body
namespace Go.Proofs.YtbgoibedicbkjaaGreatDoor.Body
open Go.RowKit Mem Own Canon Nums Crc Opts
theorem flZ{w:World}{g base r c at_:Nat}{bs:List Nat}{A:Option Addr}{er:Int}{t:TypeId}{cs:Array Value}(h:Cur w g base bs A c at_ er)(ht:t≠136/\5≠t)(hr:Blk w r t cs)(k:Nat)(u:Value):Cur (w.setCell ⟨r,k,none⟩ u) g base bs A c at_ er:=
 ⟨h.blk.far (fun e=>Blk.apart hr h.blk ht.1 e.symm) _,vZ h.own (jZ h.own hr ht.2) _,h.le,h.lo⟩
theorem vwZ{w w':World}{r g:Nat}(h:TabAt w)(hk:Kept (fun x=>x<w.heap.size/\x≠r/\x≠g) w w')(hr:0<r)(hg:0<g):TabAt w':=fun i hi=>
 (World.cell?_of_block (a:=⟨_,i,none⟩) (hk.block _ ⟨h.lt,Nat.ne_of_lt hr,Nat.ne_of_lt hg⟩)).trans (h i hi)
theorem ffZb(w:World)(r g base rb:Nat)(ls:List Nat)(B:Option Addr)(d:Nat)(X:Option Addr)(n c:Nat)(hn:ls.length=n)(hle:n<=100000)(hcap:n<=c)(h8:∀x∈ls,x<=255)(ht:TabAt w)(hgt:0<rb)(hX:Row w rb X n 1 (mZ .u8 ls))(hrb:rb<=g/\rb<=r)(h:Cur w g base ls B d 0 0)(hr:Blk w r 79 #[.pointer (some ⟨g,0,none⟩), .int .i64 0, .bool false, .int .i64 0, .int .i64 0, .int .i64 0, .int .i64 0]):
 Calls Tryz.prog 35 #[.pointer (some ⟨r,0,none⟩), .slice X n c] w fun e w'=>e= .returned (.tuple #[.int .i64 (sfZ ls:Nat), .int .i64 (gcZ ls)])/\Kept (fun x=>x<w.heap.size/\x≠r/\x≠g) w w'/\(gcZ ls=0->Blk w' r 79 #[.pointer (some ⟨g,0,none⟩), .int .i64 (tS ls:Nat), .bool (decide (tP ls=1)), .int .i64 (tK ls:Nat), .int .i64 0, .int .i64 0, .int .i64 0]):=by
 have hle':ls.length<=100000:=by omega
 have hrg:r≠g:=Blk.apart hr h.blk (by decide)
 have hgl:=h.blk.lt
 have hrl:=hr.lt
 have D1:=hid (liZ w g base ls B d 0 0 5 hle' (by omega) h)
 have D2:=hid (fun wx hx=>mhZ wx g base ls B d (tA0 ls) (tE0 ls) 32768 hle' h8 (by omega) hx)
 have D3:=hid (fun wx hx=>zuZ wx g base ls B d (tA1 ls) (tE1 ls) hle' hx)
 have D4:=hid (fun wx hx=>pfZ wx g base ls B d (tA2 ls) (tE2 ls) 2 hx)
 have D5:=hid (fun wx hx=>mhZ wx g base ls B d (tA2 ls) (tF2 ls) 64 hle' h8 (by omega) hx)
 have D6:=hid (fun wx hx=>liZ wx g base ls B d (tA3 ls) (tE3 ls) 4 hle' (by omega) hx)
 have hF:(1<tP ls->tF2 ls=ygZ (tE2 ls) 2)/\(¬1<tP ls->tF2 ls=tE2 ls):=⟨fun h=>if_pos h,fun h=>if_neg h⟩
 have hP:tP ls<=255:=by
  unfold tP yeZ
  split
  ·omega
  ·rw[List.getD_eq_getElem?_getD]
   cases hq:ls[tA1 ls]? with
   |none=>simp
   |some y=>exact h8 y (List.mem_of_getElem? hq)
 have HE:Hid ((tE4 ls=0->(icZ (ls.take (tA4 ls))=0->sfZ ls=tA4 ls/\gcZ ls=mdZ ⟨(tS ls:Nat),decide (tP ls=1),(tK ls:Nat),0,0,0⟩)/\(icZ (ls.take (tA4 ls))≠0->sfZ ls=0/\gcZ ls=icZ (ls.take (tA4 ls))))/\(tE4 ls≠0->sfZ ls=0/\gcZ ls=tE4 ls)):=by
  refine⟨fun h=>⟨fun h2=> ?_,fun h2=> ?_⟩,fun h=> ?_⟩
  ·unfold sfZ gcZ
   rw[if_neg (by simp[h]),if_neg (by simp[h2]),if_neg (by simp[h]),if_neg (by simp[h2])]
   exact⟨rfl,rfl⟩
  ·unfold sfZ gcZ
   rw[if_neg (by simp[h]),if_pos h2,if_neg (by simp[h]),if_pos h2]
   exact⟨rfl,rfl⟩
  ·unfold sfZ gcZ
   rw[if_pos h,if_pos h]
   exact⟨rfl,rfl⟩
 have ha4:tA4 ls<=n:=by
  rw[<-hn]
  exact hhZ ls _ _ _ (kfZ h8 _ (hhZ ls _ _ _ (kfZ h8 _ (hhZ ls 0 0 5 (Nat.zero_le _)))))
 unfold ghZ at D1 D6
 rw[show takeA ls 0 0 5=tA0 ls from rfl,show gbZ ls 0 0 5=tE0 ls from rfl]at D1
 rw[show tZ 32768 ls (tA0 ls) (tE0 ls)=tS ls from rfl,show pZ 32768 ls (tA0 ls) (tE0 ls)=tA1 ls from rfl,show qZ 32768 ls (tA0 ls) (tE0 ls)=tE1 ls from rfl]at D2
 rw[show yeZ ls (tA1 ls) (tE1 ls)=tP ls from rfl,show takeA ls (tA1 ls) (tE1 ls) 1=tA2 ls from rfl,show gbZ ls (tA1 ls) (tE1 ls) 1=tE2 ls from rfl]at D3
 rw[show tZ 64 ls (tA2 ls) (tF2 ls)=tK ls from rfl,show pZ 64 ls (tA2 ls) (tF2 ls)=tA3 ls from rfl,show qZ 64 ls (tA2 ls) (tF2 ls)=tE3 ls from rfl]at D5
 rw[show takeA ls (tA3 ls) (tE3 ls) 4=tA4 ls from rfl,show gbZ ls (tA3 ls) (tE3 ls) 4=tE4 ls from rfl]at D6
 generalize sfZ ls=hN at *
 generalize gcZ ls=hE0 at *
 generalize tA0 ls=a0 at *
 generalize tE0 ls=e0 at *
 generalize tS ls=S at *
 generalize tA1 ls=a1 at *
 generalize tE1 ls=e1 at *
 generalize tP ls=P at *
 generalize tA2 ls=a2 at *
 generalize tE2 ls=e2 at *
 generalize tF2 ls=f2e at *
 generalize tK ls=K at *
 generalize tA3 ls=a3 at *
 generalize tE3 ls=e3 at *
 generalize tA4 ls=a4 at *
 generalize tE4 ls=e4 at *
 have HF:=hid hF
 obtain⟨pb,hpb⟩:∃pb,pb=decide (P=1):=⟨_,rfl⟩
 rw[<-hpb]at HE ⊢
 have gP:((P:Int)==1)=pb:=by
  rw[hpb]
  by_cases h:P=1
  ·subst h;rfl
  ·rw[decide_eq_false h,beq_eq_false_iff_ne];omega
 have p0:=hr.cell 0
 simp only[List.getElem?_toArray,List.getElem?_cons_zero]at p0
 have HR0:=hid hr
 clear hF hpb h hr
 go_enter Tryz.func35,Tryz.ntmps35
 go_wp2_with fail
 refine D1.out.mono ?_
 rintro e w1 ⟨v1,rfl,_,hc1,hk1⟩
 have hr1:Blk w1 r 79 #[.pointer (some ⟨g,0,none⟩), .int .i64 0, .bool false, .int .i64 0, .int .i64 0, .int .i64 0, .int .i64 0]:=(hk1.block r ⟨hrl,hrg⟩).trans HR0.out
 have HK1:Hid (Kept (fun x=>x<w.heap.size/\x≠r/\x≠g) w w1):=⟨hk1.os,hk1.tape,hk1.output,hk1.size,fun x hx=>hk1.block x ⟨hx.1,hx.2.2⟩⟩
 have HR1:=hid hr1
 have p1:=hr1.cell 0
 simp only[List.getElem?_toArray,List.getElem?_cons_zero]at p1
 have z1:=hk1.size
 have D2:=hid (D2.out _ hc1)
 clear hr1 hc1 hk1 D1 p0
 go_wp2_with fail
 refine D2.out.mono ?_
 rintro e w2 ⟨rfl,hc2,hk2⟩
 have hr2:Blk w2 r 79 #[.pointer (some ⟨g,0,none⟩), .int .i64 0, .bool false, .int .i64 0, .int .i64 0, .int .i64 0, .int .i64 0]:=(hk2.block r ⟨HR1.out.lt,hrg⟩).trans HR1.out
 have HK2:Hid (Kept (fun x=>x<w.heap.size/\x≠r/\x≠g) w (w2.setCell ⟨r,1,none⟩ (.int .i64 (S:Nat)))):=(HK1.out.trans ⟨hk2.os,hk2.tape,hk2.output,hk2.size,fun x hx=>hk2.block x ⟨by omega,hx.2.2⟩⟩).set (fun h=>h.2.1 rfl) _
 have q1:=hr2.cell 1
 have f1:=hr2.frozen 1
 simp only[List.getElem?_toArray,List.getElem?_cons_zero,List.getElem?_cons_succ]at q1
 have HR2:Hid (Blk (w2.setCell ⟨r,1,none⟩ (.int .i64 (S:Nat))) r 79 #[.pointer (some ⟨g,0,none⟩), .int .i64 (S:Nat), .bool false, .int .i64 0, .int .i64 0, .int .i64 0, .int .i64 0]):=hid (by simpa using hr2.set 1 (.int .i64 (S:Nat)))
 have p2:=HR2.out.cell 0
 simp only[List.getElem?_toArray,List.getElem?_cons_zero]at p2
 have D3:=hid (D3.out _ (flZ hc2 (by decide) hr2 1 (.int .i64 (S:Nat))))
 clear hr2 hc2 hk2 D2 HR1 HK1 p1 HR0
 go_wp2_with fail
 refine D3.out.mono ?_
 rintro e w3 ⟨rfl,hc3,hk3⟩
 have hr3:Blk w3 r 79 #[.pointer (some ⟨g,0,none⟩), .int .i64 (S:Nat), .bool false, .int .i64 0, .int .i64 0, .int .i64 0, .int .i64 0]:=(hk3.block r ⟨HR2.out.lt,hrg⟩).trans HR2.out
 have z2:=HK2.out.size
 have hk3':Kept (fun x=>x<w.heap.size/\x≠r/\x≠g) w w3:=HK2.out.trans ⟨hk3.os,hk3.tape,hk3.output,hk3.size,fun x hx=>hk3.block x ⟨by omega,hx.2.2⟩⟩
 clear hk3 D3 HR2 HK2 p2 q1 f1
 by_cases hp1:1<P
 ·have gp:decide ((1:Int)<(P:Int))=true:=by simp;omega
  have gp':decide (1<P)=true:=by simp;omega
  have hff:=HF.out.1 hp1
  have D4:=hid (D4.out _ hc3)
  rw[<-hff]at D4
  have p3:=hr3.cell 0
  simp only[List.getElem?_toArray,List.getElem?_cons_zero]at p3
  have z3:=hk3'.size
  have HR3a:=hid hr3
  have HK3a:=hid hk3'
  clear hp1 hff hr3 hk3' hc3
  go_wp2_with fail
  refine D4.out.mono ?_
  rintro e w4 ⟨rfl,hc4,hk4⟩
  have HR3:Hid (Blk w4 r 79 #[.pointer (some ⟨g,0,none⟩), .int .i64 (S:Nat), .bool false, .int .i64 0, .int .i64 0, .int .i64 0, .int .i64 0]):=(hk4.block r hrg).trans HR3a.out
  have HK3:Hid (Kept (fun x=>x<w.heap.size/\x≠r/\x≠g) w w4):=HK3a.out.trans ⟨hk4.os,hk4.tape,hk4.output,hk4.size,fun x hx=>hk4.block x hx.2.2⟩
  have HC3:=hid hc4
  have p0:=p3
  clear hc4 hk4 D4 HR3a HK3a p3
  have q2:=HR3.out.cell 2
  have f2:=HR3.out.frozen 2
  simp only[List.getElem?_toArray,List.getElem?_cons_zero,List.getElem?_cons_succ]at q2
  have hr4:Blk (w4.setCell ⟨r,2,none⟩ (.bool pb)) r 79 #[.pointer (some ⟨g,0,none⟩), .int .i64 (S:Nat), .bool pb, .int .i64 0, .int .i64 0, .int .i64 0, .int .i64 0]:=by simpa using HR3.out.set 2 (.bool pb)
  have hc4:Cur (w4.setCell ⟨r,2,none⟩ (.bool pb)) g base ls B d a2 f2e:=flZ HC3.out (by decide) HR3.out _ _
  have HK4:Hid (Kept (fun x=>x<w.heap.size/\x≠r/\x≠g) w (w4.setCell ⟨r,2,none⟩ (.bool pb))):=HK3.out.set (fun h=>h.2.1 rfl) _
  have HC4:=hid hc4
  have HR4:=hid hr4
  have q0:=HR4.out.cell 0
  simp only[List.getElem?_toArray,List.getElem?_cons_zero]at q0
  have D5:=hid (D5.out _ HC4.out)
  clear hr4 hc4 HC3 HK3 p0
  go_wp2_with fail
  refine D5.out.mono ?_
  rintro e w5 ⟨rfl,hc5,hk5⟩
  have hr5:=(hk5.block r ⟨HR4.out.lt,hrg⟩).trans HR4.out
  have HR5:Hid (Blk w5 r 79 #[.pointer (some ⟨g,0,none⟩), .int .i64 (S:Nat), .bool pb, .int .i64 0, .int .i64 0, .int .i64 0, .int .i64 0]):=hr5
  have z4:=HK4.out.size
  have HK5:Hid (Kept (fun x=>x<w.heap.size/\x≠r/\x≠g) w w5):=HK4.out.trans ⟨hk5.os,hk5.tape,hk5.output,hk5.size,fun x hx=>hk5.block x ⟨by omega,hx.2.2⟩⟩
  have HC5:=hid hc5
  have q3:=HR5.out.cell 3
  have f3:=HR5.out.frozen 3
  simp only[List.getElem?_toArray,List.getElem?_cons_zero,List.getElem?_cons_succ]at q3
  have hr6:Blk (w5.setCell ⟨r,3,none⟩ (.int .i64 (K:Nat))) r 79 #[.pointer (some ⟨g,0,none⟩), .int .i64 (S:Nat), .bool pb, .int .i64 (K:Nat), .int .i64 0, .int .i64 0, .int .i64 0]:=by simpa using HR5.out.set 3 (.int .i64 (K:Nat))
  have HC6:Hid (Cur (w5.setCell ⟨r,3,none⟩ (.int .i64 (K:Nat))) g base ls B d a3 e3):=flZ HC5.out (by decide) HR5.out _ _
  have HK6:Hid (Kept (fun x=>x<w.heap.size/\x≠r/\x≠g) w (w5.setCell ⟨r,3,none⟩ (.int .i64 (K:Nat)))):=HK5.out.set (fun h=>h.2.1 rfl) _
  have HR6:=hid hr6
  have q6:=HR6.out.cell 0
  simp only[List.getElem?_toArray,List.getElem?_cons_zero]at q6
  have D6:=hid (D6.out _ HC6.out)
  clear hr6 hr5 hc5 hk5 HC5 HK5 HC4 HK4 D5 q0
  go_wp2_with fail
  refine D6.out.mono ?_
  rintro e w7 ⟨v7,rfl,_,hc7,hk7⟩
  have hr7:=(hk7.block r ⟨HR6.out.lt,hrg⟩).trans HR6.out
  have HR7:Hid (Blk w7 r 79 #[.pointer (some ⟨g,0,none⟩), .int .i64 (S:Nat), .bool pb, .int .i64 (K:Nat), .int .i64 0, .int .i64 0, .int .i64 0]):=hr7
  have z6:=HK6.out.size
  have HK7:Hid (Kept (fun x=>x<w.heap.size/\x≠r/\x≠g) w w7):=HK6.out.trans ⟨hk7.os,hk7.tape,hk7.output,hk7.size,fun x hx=>hk7.block x ⟨by omega,hx.2.2⟩⟩
  have HC7:=hid hc7
  have q7:=HR7.out.cell 0
  simp only[List.getElem?_toArray,List.getElem?_cons_zero]at q7
  have D7:=hid (lcZ w7 g base ls B d a4 e4 HC7.out)
  have D8:=hid (xiZ w7 g base ls B d a4 e4 HC7.out)
  have z7:=HK7.out.size
  clear hr7 hc7 hk7 HC6 HK6 D6 q6 q3 f3 q2 f2
  go_wp2_with fail
  refine D7.out.mono ?_
  rintro e w8 ⟨rfl,rfl⟩
  by_cases he4:e4=0
  ·subst he4
   have hpre:Row w8 w8.heap.size X a4 1 (mZ .u8 (ls.take a4)):=(hbZ hX ha4).keep (fun a ha=>World.cell?_of_block (a:=a) (HK7.out.block a.block ⟨by omega,by omega,by omega⟩)) |>.mono (by omega)
   have D9:=dlZ w8 X a4 c (ls.take a4) (by rw[List.length_take,hn];omega) (by omega) (by omega) (fun x hx=>h8 x (List.mem_of_mem_take hx)) (vwZ ht HK7.out (by omega) (by omega)) hpre
   unfold deZ at D9
   have ks:=fun wx=>fcZ (P:=Tryz.prog) (t:=22) (s:=1) Tryz.underlying22 (fun _=>by kernel_rfl) X n c .i64 (a4:Int) a4 rfl (by omega) (fun a _=>rfl) wx
   have hE:=HE.out.1 rfl
   generalize xZ (ls.take a4)=co at *
   generalize icZ (ls.take a4)=ce at *
   have D9:=hid D9
   have HEE:=hid hE
   clear hpre hE
   go_wp2_with fail
   refine D8.out.mono ?_
   rintro e w9 ⟨rfl,rfl⟩
   go_wp2_with fail
   refine D9.out.mono ?_
   rintro e w10 ⟨v10,rfl,ho10,hb10⟩
   have HK10:Hid (Kept (fun x=>x<w.heap.size/\x≠r/\x≠g) w w10):=HK7.out.trans (Kept.of_below hb10 (fun x hx=>by have:=hx.1;omega))
   have HR10:=hid (HR7.out.step hb10)
   have HC10:=hid (HC7.out.step hb10)
   obtain⟨A10,c10,rfl⟩:=bZ ho10
   clear ho10 hb10 D9 HC7 HR7 HK7 q7
   by_cases hce:ce=0
   ·subst hce
    have hE:=HEE.out.1 rfl
    have DA:=hid (fun wx (hb:Below w10.heap.size w10 wx)=>xiZ wx g base ls B d a4 0 (HC10.out.step hb))
    have DK:=hid (fun wx=>uiZ wx ⟨(S:Nat),pb,(K:Nat),0,0,0⟩)
    unfold Opt.val at DK
    have HS10:Hid (∀wx,Below w10.heap.size w10 wx->wx.cell? ⟨r,0,none⟩=some (.pointer (some ⟨g,0,none⟩))/\wx.cell? ⟨r,1,none⟩=some (.int .i64 (S:Nat))/\wx.cell? ⟨r,2,none⟩=some (.bool pb)/\wx.cell? ⟨r,3,none⟩=some (.int .i64 (K:Nat))/\wx.cell? ⟨r,4,none⟩=some (.int .i64 0)/\wx.cell? ⟨r,5,none⟩=some (.int .i64 0)/\wx.cell? ⟨r,6,none⟩=some (.int .i64 0)):=fun wx hb=>⟨(HR10.out.step hb).cell 0,(HR10.out.step hb).cell 1,(HR10.out.step hb).cell 2,(HR10.out.step hb).cell 3,(HR10.out.step hb).cell 4,(HR10.out.step hb).cell 5,(HR10.out.step hb).cell 6⟩
    simp only at DK
    generalize mdZ ⟨(S:Nat),pb,(K:Nat),0,0,0⟩=oe at *
    have HEF:=hid hE
    clear hE HEE
    go_wp2_with fail
    go_region_held3 (fun wx=>wx.cell? ⟨r,0,none⟩=some (.pointer (some ⟨g,0,none⟩))/\wx.cell? ⟨r,1,none⟩=some (.int .i64 (S:Nat))/\wx.cell? ⟨r,2,none⟩=some (.bool pb)/\wx.cell? ⟨r,3,none⟩=some (.int .i64 (K:Nat))/\wx.cell? ⟨r,4,none⟩=some (.int .i64 0)/\wx.cell? ⟨r,5,none⟩=some (.int .i64 0)/\wx.cell? ⟨r,6,none⟩=some (.int .i64 0)) (exact HS10.out _ (by(repeat(first|(with_reducible first|exact Below.refl _ _|assumption|refine Below.drew ?_|refine below_drewN ?_ _|refine aZ ?_|refine dZ (by assumption) ?_)|((with_reducible first|refine fZ ?_ ?_|refine gZ ?_ ?_|refine iZ (by assumption) ?_ ?_);(focus(first|(simp;done)|(simp;omega)|omega|(simp at *;omega)))))))) (first|(go_at_call 90;(with_reducible refine(DA.out _ (by(repeat(first|(with_reducible first|exact Below.refl _ _|assumption|refine Below.drew ?_|refine below_drewN ?_ _|refine aZ ?_|refine dZ (by assumption) ?_)|((with_reducible first|refine fZ ?_ ?_|refine gZ ?_ ?_|refine iZ (by assumption) ?_ ?_);(focus(first|(simp;done)|(simp;omega)|omega|(simp at *;omega)))))))).mono ?_);rintro e wA ⟨rfl,rfl⟩)|(go_at_call 78;(with_reducible refine(DK.out _).mono ?_);rintro e wB ⟨rfl,hbB⟩;have BB:Below w10.heap.size w10 wB:=dZ hbB (by(repeat(first|(with_reducible first|exact Below.refl _ _|assumption|refine Below.drew ?_|refine below_drewN ?_ _|refine aZ ?_|refine dZ (by assumption) ?_)|((with_reducible first|refine fZ ?_ ?_|refine gZ ?_ ?_|refine iZ (by assumption) ?_ ?_);(focus(first|(simp;done)|(simp;omega)|omega|(simp at *;omega)))))))))
    all_goals
     have HBB:=hid BB
     clear hbB BB
     go_wp2_with fail
     go_ret2
     rw[HEF.out.1,HEF.out.2]
     exact⟨rfl,HK10.out.trans (Kept.of_below HBB.out (fun x hx=>by have:=hx.1;have:=HK10.out.size;omega)),fun _=>HR10.out.step HBB.out⟩
   ·have gE:(ce != 0)=true:=by simpa using hce
    have hE:=HEE.out.2 hce
    have HEF:=hid hE
    have HNE:=hid hce
    clear hce hE HEE
    go_wp2_with fail
    go_ret2
    rw[HEF.out.1,HEF.out.2]
    exact⟨rfl,HK10.out,fun h=>absurd h HNE.out⟩
  ·have gE:(e4 != 0)=true:=by simpa using he4
   have hE:=HE.out.2 he4
   have HEF:=hid hE
   have HNE:=hid he4
   clear he4 hE
   go_wp2_with fail
   go_ret2
   rw[HEF.out.1,HEF.out.2]
   exact⟨rfl,HK7.out,fun h=>absurd h HNE.out⟩
 ·have gp:decide ((1:Int)<(P:Int))=false:=by simp;omega
  have gp':decide (1<P)=false:=by simp;omega
  have hff:=HF.out.2 hp1
  rw[<-hff]at hc3
  have HR3:=hid hr3
  have HK3:=hid hk3'
  have HC3:=hid hc3
  have p0:=hr3.cell 0
  clear hp1 hff hr3 hk3' hc3 D4
  obtain⟨w4,rfl⟩:∃w4:World,w4=w3:=⟨_,rfl⟩
  have q2:=HR3.out.cell 2
  have f2:=HR3.out.frozen 2
  simp only[List.getElem?_toArray,List.getElem?_cons_zero,List.getElem?_cons_succ]at q2
  have hr4:Blk (w4.setCell ⟨r,2,none⟩ (.bool pb)) r 79 #[.pointer (some ⟨g,0,none⟩), .int .i64 (S:Nat), .bool pb, .int .i64 0, .int .i64 0, .int .i64 0, .int .i64 0]:=by simpa using HR3.out.set 2 (.bool pb)
  have hc4:Cur (w4.setCell ⟨r,2,none⟩ (.bool pb)) g base ls B d a2 f2e:=flZ HC3.out (by decide) HR3.out _ _
  have HK4:Hid (Kept (fun x=>x<w.heap.size/\x≠r/\x≠g) w (w4.setCell ⟨r,2,none⟩ (.bool pb))):=HK3.out.set (fun h=>h.2.1 rfl) _
  have HC4:=hid hc4
  have HR4:=hid hr4
  have q0:=HR4.out.cell 0
  simp only[List.getElem?_toArray,List.getElem?_cons_zero]at q0
  have D5:=hid (D5.out _ HC4.out)
  clear hr4 hc4 HC3 HK3 p0
  go_wp2_with fail
  refine D5.out.mono ?_
  rintro e w5 ⟨rfl,hc5,hk5⟩
  have hr5:=(hk5.block r ⟨HR4.out.lt,hrg⟩).trans HR4.out
  have HR5:Hid (Blk w5 r 79 #[.pointer (some ⟨g,0,none⟩), .int .i64 (S:Nat), .bool pb, .int .i64 0, .int .i64 0, .int .i64 0, .int .i64 0]):=hr5
  have z4:=HK4.out.size
  have HK5:Hid (Kept (fun x=>x<w.heap.size/\x≠r/\x≠g) w w5):=HK4.out.trans ⟨hk5.os,hk5.tape,hk5.output,hk5.size,fun x hx=>hk5.block x ⟨by omega,hx.2.2⟩⟩
  have HC5:=hid hc5
  have q3:=HR5.out.cell 3
  have f3:=HR5.out.frozen 3
  simp only[List.getElem?_toArray,List.getElem?_cons_zero,List.getElem?_cons_succ]at q3
  have hr6:Blk (w5.setCell ⟨r,3,none⟩ (.int .i64 (K:Nat))) r 79 #[.pointer (some ⟨g,0,none⟩), .int .i64 (S:Nat), .bool pb, .int .i64 (K:Nat), .int .i64 0, .int .i64 0, .int .i64 0]:=by simpa using HR5.out.set 3 (.int .i64 (K:Nat))
  have HC6:Hid (Cur (w5.setCell ⟨r,3,none⟩ (.int .i64 (K:Nat))) g base ls B d a3 e3):=flZ HC5.out (by decide) HR5.out _ _
  have HK6:Hid (Kept (fun x=>x<w.heap.size/\x≠r/\x≠g) w (w5.setCell ⟨r,3,none⟩ (.int .i64 (K:Nat)))):=HK5.out.set (fun h=>h.2.1 rfl) _
  have HR6:=hid hr6
  have q6:=HR6.out.cell 0
  simp only[List.getElem?_toArray,List.getElem?_cons_zero]at q6
  have D6:=hid (D6.out _ HC6.out)
  clear hr6 hr5 hc5 hk5 HC5 HK5 HC4 HK4 D5 q0
  go_wp2_with fail
  refine D6.out.mono ?_
  rintro e w7 ⟨v7,rfl,_,hc7,hk7⟩
  have hr7:=(hk7.block r ⟨HR6.out.lt,hrg⟩).trans HR6.out
  have HR7:Hid (Blk w7 r 79 #[.pointer (some ⟨g,0,none⟩), .int .i64 (S:Nat), .bool pb, .int .i64 (K:Nat), .int .i64 0, .int .i64 0, .int .i64 0]):=hr7
  have z6:=HK6.out.size
  have HK7:Hid (Kept (fun x=>x<w.heap.size/\x≠r/\x≠g) w w7):=HK6.out.trans ⟨hk7.os,hk7.tape,hk7.output,hk7.size,fun x hx=>hk7.block x ⟨by omega,hx.2.2⟩⟩
  have HC7:=hid hc7
  have q7:=HR7.out.cell 0
  simp only[List.getElem?_toArray,List.getElem?_cons_zero]at q7
  have D7:=hid (lcZ w7 g base ls B d a4 e4 HC7.out)
  have D8:=hid (xiZ w7 g base ls B d a4 e4 HC7.out)
  have z7:=HK7.out.size
  clear hr7 hc7 hk7 HC6 HK6 D6 q6 q3 f3 q2 f2
  go_wp2_with fail
  refine D7.out.mono ?_
  rintro e w8 ⟨rfl,rfl⟩
  by_cases he4:e4=0
  ·subst he4
   have hpre:Row w8 w8.heap.size X a4 1 (mZ .u8 (ls.take a4)):=(hbZ hX ha4).keep (fun a ha=>World.cell?_of_block (a:=a) (HK7.out.block a.block ⟨by omega,by omega,by omega⟩)) |>.mono (by omega)
   have D9:=dlZ w8 X a4 c (ls.take a4) (by rw[List.length_take,hn];omega) (by omega) (by omega) (fun x hx=>h8 x (List.mem_of_mem_take hx)) (vwZ ht HK7.out (by omega) (by omega)) hpre
   unfold deZ at D9
   have ks:=fun wx=>fcZ (P:=Tryz.prog) (t:=22) (s:=1) Tryz.underlying22 (fun _=>by kernel_rfl) X n c .i64 (a4:Int) a4 rfl (by omega) (fun a _=>rfl) wx
   have hE:=HE.out.1 rfl
   generalize xZ (ls.take a4)=co at *
   generalize icZ (ls.take a4)=ce at *
   have D9:=hid D9
   have HEE:=hid hE
   clear hpre hE
   go_wp2_with fail
   refine D8.out.mono ?_
   rintro e w9 ⟨rfl,rfl⟩
   go_wp2_with fail
   refine D9.out.mono ?_
   rintro e w10 ⟨v10,rfl,ho10,hb10⟩
   have HK10:Hid (Kept (fun x=>x<w.heap.size/\x≠r/\x≠g) w w10):=HK7.out.trans (Kept.of_below hb10 (fun x hx=>by have:=hx.1;omega))
   have HR10:=hid (HR7.out.step hb10)
   have HC10:=hid (HC7.out.step hb10)
   obtain⟨A10,c10,rfl⟩:=bZ ho10
   clear ho10 hb10 D9 HC7 HR7 HK7 q7
   by_cases hce:ce=0
   ·subst hce
    have hE:=HEE.out.1 rfl
    have DA:=hid (fun wx (hb:Below w10.heap.size w10 wx)=>xiZ wx g base ls B d a4 0 (HC10.out.step hb))
    have DK:=hid (fun wx=>uiZ wx ⟨(S:Nat),pb,(K:Nat),0,0,0⟩)
    unfold Opt.val at DK
    have HS10:Hid (∀wx,Below w10.heap.size w10 wx->wx.cell? ⟨r,0,none⟩=some (.pointer (some ⟨g,0,none⟩))/\wx.cell? ⟨r,1,none⟩=some (.int .i64 (S:Nat))/\wx.cell? ⟨r,2,none⟩=some (.bool pb)/\wx.cell? ⟨r,3,none⟩=some (.int .i64 (K:Nat))/\wx.cell? ⟨r,4,none⟩=some (.int .i64 0)/\wx.cell? ⟨r,5,none⟩=some (.int .i64 0)/\wx.cell? ⟨r,6,none⟩=some (.int .i64 0)):=fun wx hb=>⟨(HR10.out.step hb).cell 0,(HR10.out.step hb).cell 1,(HR10.out.step hb).cell 2,(HR10.out.step hb).cell 3,(HR10.out.step hb).cell 4,(HR10.out.step hb).cell 5,(HR10.out.step hb).cell 6⟩
    simp only at DK
    generalize mdZ ⟨(S:Nat),pb,(K:Nat),0,0,0⟩=oe at *
    have HEF:=hid hE
    clear hE HEE
    go_wp2_with fail
    go_region_held3 (fun wx=>wx.cell? ⟨r,0,none⟩=some (.pointer (some ⟨g,0,none⟩))/\wx.cell? ⟨r,1,none⟩=some (.int .i64 (S:Nat))/\wx.cell? ⟨r,2,none⟩=some (.bool pb)/\wx.cell? ⟨r,3,none⟩=some (.int .i64 (K:Nat))/\wx.cell? ⟨r,4,none⟩=some (.int .i64 0)/\wx.cell? ⟨r,5,none⟩=some (.int .i64 0)/\wx.cell? ⟨r,6,none⟩=some (.int .i64 0)) (exact HS10.out _ (by(repeat(first|(with_reducible first|exact Below.refl _ _|assumption|refine Below.drew ?_|refine below_drewN ?_ _|refine aZ ?_|refine dZ (by assumption) ?_)|((with_reducible first|refine fZ ?_ ?_|refine gZ ?_ ?_|refine iZ (by assumption) ?_ ?_);(focus(first|(simp;done)|(simp;omega)|omega|(simp at *;omega)))))))) (first|(go_at_call 90;(with_reducible refine(DA.out _ (by(repeat(first|(with_reducible first|exact Below.refl _ _|assumption|refine Below.drew ?_|refine below_drewN ?_ _|refine aZ ?_|refine dZ (by assumption) ?_)|((with_reducible first|refine fZ ?_ ?_|refine gZ ?_ ?_|refine iZ (by assumption) ?_ ?_);(focus(first|(simp;done)|(simp;omega)|omega|(simp at *;omega)))))))).mono ?_);rintro e wA ⟨rfl,rfl⟩)|(go_at_call 78;(with_reducible refine(DK.out _).mono ?_);rintro e wB ⟨rfl,hbB⟩;have BB:Below w10.heap.size w10 wB:=dZ hbB (by(repeat(first|(with_reducible first|exact Below.refl _ _|assumption|refine Below.drew ?_|refine below_drewN ?_ _|refine aZ ?_|refine dZ (by assumption) ?_)|((with_reducible first|refine fZ ?_ ?_|refine gZ ?_ ?_|refine iZ (by assumption) ?_ ?_);(focus(first|(simp;done)|(simp;omega)|omega|(simp at *;omega)))))))))
    all_goals
     have HBB:=hid BB
     clear hbB BB
     go_wp2_with fail
     go_ret2
     rw[HEF.out.1,HEF.out.2]
     exact⟨rfl,HK10.out.trans (Kept.of_below HBB.out (fun x hx=>by have:=hx.1;have:=HK10.out.size;omega)),fun _=>HR10.out.step HBB.out⟩
   ·have gE:(ce != 0)=true:=by simpa using hce
    have hE:=HEE.out.2 hce
    have HEF:=hid hE
    have HNE:=hid hce
    clear hce hE HEE
    go_wp2_with fail
    go_ret2
    rw[HEF.out.1,HEF.out.2]
    exact⟨rfl,HK10.out,fun h=>absurd h HNE.out⟩
  ·have gE:(e4 != 0)=true:=by simpa using he4
   have hE:=HE.out.2 he4
   have HEF:=hid hE
   have HNE:=hid he4
   clear he4 hE
   go_wp2_with fail
   go_ret2
   rw[HEF.out.1,HEF.out.2]
   exact⟨rfl,HK7.out,fun h=>absurd h HNE.out⟩
end Go.Proofs.YtbgoibedicbkjaaGreatDoor.Body
namespace Go.Proofs.YtbgoibedicbkjaaGreatDoor.Body
open Go.RowKit Mem Own Canon Nums Crc Recs
open Opts
open Go.Proofs.YtbgoibedicbkjaaGreatDoor.One (jdZ ueZ zqZ)
open Go.Proofs.YtbgoibedicbkjaaGreatDoor.Idx (Str IxAt)
def tB(ls:List Nat):List Nat:=ls.drop (tA4 ls)
theorem csZ(ls:List Nat):ngZ ls=if jdZ ls≠0 then jdZ ls else if ueZ ls≠2 then 4 else if gcZ ls≠0 then gcZ ls else idZ (tO ls) (tB ls):=rfl
theorem gfZb{ls:List Nat}(h8:∀x∈ls,x<=255):tA4 ls<=ls.length:=
 hhZ ls _ _ _ (kfZ h8 _ (hhZ ls _ _ _ (kfZ h8 _ (hhZ ls 0 0 5 (Nat.zero_le _)))))
theorem hlZb{ls:List Nat}(h:gcZ ls=0):sfZ ls=tA4 ls:=by
 unfold gcZ at h
 unfold sfZ
 split at h
 ·rename_i h1;exact absurd h h1
 ·rename_i h1
  rw[if_neg h1]
  split at h
  ·rename_i h2;exact absurd h h2
  ·rename_i h2;rw[if_neg h2]
theorem BodyAt.mono{w:World}{base b2 gb:Nat}{C S T L:List Nat}{X:List Str×List (List Nat)}{F:List (List Nat)}{K:List Bool}(h:BodyAt w base gb C S T L X F K)(hb:b2<=base):BodyAt w b2 gb C S T L X F K:=by
 obtain⟨vc,vs,p,q,vt,vl,vT,vL,vF,va,vals,fv,h0,h1,h2,h3,h4,h5,h6,h7⟩:=h
 exact⟨vc,vs,p,q,vt,vl,vT,vL,vF,va,vals,fv,h0,lZ h1 hb,lZ h2 hb,lZ h3 hb,lZ h4 hb,⟨lZ h5.t hb,lZ h5.l hb,fun i v ids hv hi=>lZ (h5.r i v ids hv hi) hb⟩,h6.mono hb,lZ h7 hb⟩
theorem BodyAt.set{w:World}{base gb x:Nat}{cs:Array Value}{C S T L:List Nat}{X:List Str×List (List Nat)}{F:List (List Nat)}{K:List Bool}(h:BodyAt w base gb C S T L X F K)(hx:Blk w x 25 cs)(k:Nat)(u:Value):BodyAt (w.setCell ⟨x,k,none⟩ u) base gb C S T L X F K:=by
 obtain⟨vc,vs,p,q,vt,vl,vT,vL,vF,va,vals,fv,h0,h1,h2,h3,h4,h5,h6,h7⟩:=h
 have far:∀ {n:Nat} {e:TypeId} {v:Value} {xs:List Value},w.ownsRow base e 1 v n xs->e≠25->(w.setCell ⟨x,k,none⟩ u).ownsRow base e 1 v n xs:=fun ho hne=>vZ ho (jZ ho hx hne) _
 exact⟨vc,vs,p,q,vt,vl,vT,vL,vF,va,vals,fv,h0.far (fun e=>Blk.apart hx h0 (by decide) e.symm) _,far h1 (by decide),far h2 (by decide),far h3 (by decide),far h4 (by decide),⟨far h5.t (by decide),far h5.l (by decide),fun i v ids hv hi=>far (h5.r i v ids hv hi) (by decide)⟩,h6.set hx (by decide) (by decide) k u,far h7 (by decide)⟩
def aqZ(ls:List Nat)(w:World)(e:Ending)(w':World):Prop:=
 Below w.heap.size w w'/\(ngZ ls≠0->e= .returned (.tuple #[.agg #[.int .i64 0, .bool false, .int .i64 0, .int .i64 0, .int .i64 0, .int .i64 0], .pointer none, .int .i64 (ngZ ls)]))/\
  (ngZ ls=0->∃gb,e= .returned (.tuple #[(tO ls).val, .pointer (some ⟨gb,0,none⟩), .int .i64 0])/\BodyAt w' w.heap.size gb (kcZ (yZ (tB ls))) (qcZ (yZ (tB ls))) (jbZ (oN (tB ls)) (xZ (bdZ (tB ls)))).1 (jbZ (oN (tB ls)) (xZ (bdZ (tB ls)))).2.1 (Idx.ixR (tO ls).bucket.toNat (oN (tB ls)) (xZ (yfZ (tB ls)))).1 (sbZ (qcZ (yZ (tB ls))) ((tB ls).take (pdZ (tB ls)))) (List.replicate (qcZ (yZ (tB ls))).length false))
theorem mmZ{ls:List Nat}{w w':World}{er:Int}(hE:ngZ ls=er)(hne:er≠0)(hb:Below w.heap.size w w'):aqZ ls w (.returned (.tuple #[.agg #[.int .i64 0, .bool false, .int .i64 0, .int .i64 0, .int .i64 0, .int .i64 0], .pointer none, .int .i64 er])) w':=by
 subst hE
 exact⟨hb,fun _=>rfl,fun h=>absurd h hne⟩
theorem hfZb(w:World)(o:Opt)(A:Option Addr)(n c:Nat)(ls:List Nat)(hn:ls.length=n)(hle:n<=100000)(hc:n<=c)(h8:∀x∈ls,x<=255)(hnil:A=none->n=0/\c=0)(ht:TabAt w)(ha:Row w w.heap.size A n 1 (mZ .u8 ls)):
 Calls Tryz.prog 18 #[o.val, .slice A n c] w (fun e w'=>∃pv,e= .returned (.tuple #[.pointer pv, .int .i64 (idZ o ls)])/\Below w.heap.size w w'/\(idZ o ls=0->∃gb,pv=some ⟨gb,0,none⟩/\BodyAt w' w.heap.size gb (kcZ (yZ ls)) (qcZ (yZ ls)) (jbZ (oN ls) (xZ (bdZ ls))).1 (jbZ (oN ls) (xZ (bdZ ls))).2.1 (Idx.ixR o.bucket.toNat (oN ls) (xZ (yfZ ls))).1 (sbZ (qcZ (yZ ls)) (ls.take (pdZ ls))) (List.replicate (qcZ (yZ ls)).length false))):=by
 refine(dfZb w o A n c ls hn hle hc h8 hnil ht ha).mono ?_
 rintro e w' ⟨hb,hbad,hok⟩
 by_cases h:idZ o ls=0
 ·obtain⟨gb,rfl,hba⟩:=hok h
  exact⟨_,by rw[h],hb,fun _=>⟨gb,rfl,hba⟩⟩
 ·exact⟨none,hbad h,hb,fun h2=>absurd h2 h⟩
theorem tiZb(w:World)(A:Option Addr)(n c:Nat)(ls:List Nat)(hn:ls.length=n)(hle:n<=100000)(hc:n<=c)(h8:∀x∈ls,x<=255)(hnil:A=none->n=0/\c=0)(ht:TabAt w)(ha:Row w w.heap.size A n 1 (mZ .u8 ls)):
 Calls Tryz.prog 9 #[.slice A n c] w (aqZ ls w):=by
 have HRO:Hid (∀wx,Below w.heap.size w wx->Row wx wx.heap.size A n 1 (mZ .u8 ls)):=fun wx h=>(ha.below h).mono h.size
 have D0:=hid (fun wx (hb:Below w.heap.size w wx)=>zqZ wx A n c ls hn hle hc h8 (HRO.out wx hb))
 have D1:=hid (fun wx (hb:Below w.heap.size w wx)=>new_any wx A n c ls hn hle hnil (HRO.out wx hb))
 have HT:=hid ht
 have HN:=hid hn
 have H8:=hid h8
 have HN0:=hid hnil
 have HA:=hid ha
 obtain⟨O,hO⟩:∃O,O=ngZ ls:=⟨_,rfl⟩
 have HO:=hid hO
 rw[csZ]at hO
 generalize jdZ ls=me at *
 generalize ueZ ls=mv at *
 have HOE:=hid hO
 clear hO ha hnil h8 ht hn HRO
 go_enter Tryz.func9,Tryz.ntmps9
 go_wp2_with fail
 have hob:Blk (w.alloc (.cells #[.int .i64 0, .bool false, .int .i64 0, .int .i64 0, .int .i64 0, .int .i64 0] 25)) w.heap.size 25 #[.int .i64 0, .bool false, .int .i64 0, .int .i64 0, .int .i64 0, .int .i64 0]:=Blk.made _ _ _
 have hb1:Below w.heap.size w (w.alloc (.cells #[.int .i64 0, .bool false, .int .i64 0, .int .i64 0, .int .i64 0, .int .i64 0] 25)):=aZ (Below.refl _ _)
 have hz1:w.heap.size+1<=(w.alloc (.cells #[.int .i64 0, .bool false, .int .i64 0, .int .i64 0, .int .i64 0, .int .i64 0] 25)).heap.size:=by simp
 generalize w.alloc (.cells #[.int .i64 0, .bool false, .int .i64 0, .int .i64 0, .int .i64 0, .int .i64 0] 25)=w1 at *
 have HZ:=hid hob
 have HB1:=hid hb1
 have D0:=hid (D0.out w1 hb1)
 have D1:=hid (D1.out w1 hb1)
 clear hob hb1
 refine D0.out.mono ?_
 rintro e wm ⟨rfl,hwm⟩
 obtain rfl:=hwm.symm
 by_cases hme:me=0
 ·subst hme
  have hO:=HOE.out
  rw[if_neg (show ¬((0:Int)≠0) from fun h=>h rfl)]at hO
  by_cases hmv:mv=2
  ·have gV:((mv:Int) != 2)=false:=by rw[hmv];rfl
   rw[if_neg (fun h=>h hmv)]at hO
   have HOV:=hid hO
   clear hO HOE D0 hmv
   go_wp2_with fail
   refine D1.out.mono ?_
   rintro e w2 ⟨g,B,d,rfl,hcur,hb2⟩
   have HZ2:=hid (HZ.out.step hb2)
   have HB2:Hid (Below w.heap.size w w2):=HB1.out.trans (hb2.mono (by omega))
   have z2:=hb2.size
   have HC2:=hid hcur
   clear hcur hb2 D1 HZ HB1
   go_wp2_with fail
   have hr3:Blk (w2.alloc (.cells #[.pointer (some ⟨g,0,none⟩), .int .i64 0, .bool false, .int .i64 0, .int .i64 0, .int .i64 0, .int .i64 0] 79)) w2.heap.size 79 #[.pointer (some ⟨g,0,none⟩), .int .i64 0, .bool false, .int .i64 0, .int .i64 0, .int .i64 0, .int .i64 0]:=Blk.made _ _ _
   have hb3:Below w2.heap.size w2 (w2.alloc (.cells #[.pointer (some ⟨g,0,none⟩), .int .i64 0, .bool false, .int .i64 0, .int .i64 0, .int .i64 0, .int .i64 0] 79)):=aZ (Below.refl _ _)
   have hz3:w2.heap.size+1<=(w2.alloc (.cells #[.pointer (some ⟨g,0,none⟩), .int .i64 0, .bool false, .int .i64 0, .int .i64 0, .int .i64 0, .int .i64 0] 79)).heap.size:=by simp
   generalize w2.alloc (.cells #[.pointer (some ⟨g,0,none⟩), .int .i64 0, .bool false, .int .i64 0, .int .i64 0, .int .i64 0, .int .i64 0] 79)=w3 at *
   have hcur3:=HC2.out.step hb3
   have hgl:=HC2.out.blk.lt
   have hglo:=HC2.out.lo
   have HZ3:=hid (HZ2.out.step hb3)
   have HB3:Hid (Below w.heap.size w w3):=HB2.out.trans (hb3.mono (by omega))
   have hrw:w1.heap.size<=w2.heap.size:=z2
   generalize w2.heap.size=r at *
   have hlt:=HT.out.lt
   have DR:=hid (ffZb w3 r g w1.heap.size w.heap.size ls B d A n c HN.out hle hc H8.out (HT.out.step HB3.out) hlt (HA.out.below HB3.out) ⟨by omega,by omega⟩ hcur3 hr3)
   have HNN:Hid (gcZ ls=0->sfZ ls=tA4 ls):=hlZb
   have htl:tA4 ls<=n:=by rw[<-HN.out];exact gfZb H8.out
   generalize gcZ ls=he at *
   obtain⟨k,hk⟩:∃k,k=tA4 ls:=⟨_,rfl⟩
   rw[<-hk]at HNN htl
   generalize sfZ ls=hN at *
   clear hr3 hb3 hcur3 HC2 HZ2 HB2 hlt
   refine DR.out.mono ?_
   rintro e w4 ⟨rfl,hk4,hok4⟩
   have z4:=hk4.size
   have HB4:Hid (Below w.heap.size w w4):=HB3.out.trans (hk4.below fun b h=>⟨by omega,by omega,by omega⟩)
   have HZ4:Hid (Blk w4 w.heap.size 25 #[.int .i64 0, .bool false, .int .i64 0, .int .i64 0, .int .i64 0, .int .i64 0]):=(hk4.block w.heap.size ⟨by omega,by omega,by omega⟩).trans HZ3.out
   have HKT:=hid hk
   clear hk DR HB3 HZ3 hk4
   by_cases hhe:he=0
   ·subst hhe
    have hr4:=hok4 rfl
    obtain rfl:hN=k:=HNN.out rfl
    have hO:=HOV.out
    rw[if_neg (show ¬((0:Int)≠0) from fun h=>h rfl)]at hO
    have htb:(tB ls).length=n-hN:=by unfold tB;rw[List.length_drop,HN.out,<-HKT.out]
    have hrow:Row w w.heap.size (sZ A hN c 1) (n-hN) 1 (mZ .u8 (tB ls)):=by unfold tB;rw[<-HKT.out];exact uZ HA.out htl hc
    have hnl:sZ A hN c 1=none->n-hN=0/\c-hN=0:=fun h=>by
     unfold sZ at h
     split at h
     ·exact⟨by omega,by omega⟩
     ·cases hA:A with
      |none=>have:=HN0.out hA;omega
      |some a=>rw[hA]at h;cases h
    have D2:=hid (fun wx (hb:Below w4.heap.size w4 wx)=>hfZb wx (tO ls) (sZ A hN c 1) (n-hN) (c-hN) (tB ls) htb (by omega) (by omega) (fun x hx=>H8.out x (List.mem_of_mem_drop hx)) hnl (HT.out.step (HB4.out.trans (hb.mono HB4.out.size))) ((hrow.below (HB4.out.trans (hb.mono HB4.out.size))).mono (Nat.le_trans HB4.out.size hb.size)))
    have ks:=fun wx=>vcZ (P:=Tryz.prog) (t:=22) (s:=1) Tryz.underlying22 (fun _=>by kernel_rfl) A n c .i64 (hN:Int) hN rfl (by omega) wx
    generalize sZ A hN c 1=A1 at *
    generalize n-hN=n1 at *
    generalize c-hN=c1 at *
    have HOO:=hid hO
    have HVV:Hid ((tO ls).val= .agg #[.int .i64 (tS ls:Nat), .bool (decide (tP ls=1)), .int .i64 (tK ls:Nat), .int .i64 0, .int .i64 0, .int .i64 0]):=rfl
    obtain⟨ov,hov⟩:∃ov,ov=(tO ls).val:=⟨_,rfl⟩
    rw[<-hov]at D2 HVV
    have HOVV:=hid hov
    obtain⟨S,hS⟩:∃S,S=tS ls:=⟨_,rfl⟩
    obtain⟨pb,hpb⟩:∃pb,pb=decide (tP ls=1):=⟨_,rfl⟩
    obtain⟨K,hK⟩:∃K,K=tK ls:=⟨_,rfl⟩
    rw[<-hS,<-hpb,<-hK]at hr4 HVV
    obtain rfl:ov=_:=HVV.out
    have HR4:=hid hr4
    have HS4:Hid (∀wx,Below w4.heap.size w4 wx->wx.cell? ⟨r,0,none⟩=some (.pointer (some ⟨g,0,none⟩))/\wx.cell? ⟨r,1,none⟩=some (.int .i64 (S:Nat))/\wx.cell? ⟨r,2,none⟩=some (.bool pb)/\wx.cell? ⟨r,3,none⟩=some (.int .i64 (K:Nat))/\wx.cell? ⟨r,4,none⟩=some (.int .i64 0)/\wx.cell? ⟨r,5,none⟩=some (.int .i64 0)/\wx.cell? ⟨r,6,none⟩=some (.int .i64 0)):=fun wx hb=>⟨(HR4.out.step hb).cell 0,(HR4.out.step hb).cell 1,(HR4.out.step hb).cell 2,(HR4.out.step hb).cell 3,(HR4.out.step hb).cell 4,(HR4.out.step hb).cell 5,(HR4.out.step hb).cell 6⟩
    generalize idZ (tO ls) (tB ls)=oe at *
    clear hr4 hO htb hrow hnl hov hS hpb hK HVV hok4 HNN HOV HT HN H8 HN0 HA HKT
    go_wp2_with fail
    go_region_held3 (fun wx=>wx.cell? ⟨r,0,none⟩=some (.pointer (some ⟨g,0,none⟩))/\wx.cell? ⟨r,1,none⟩=some (.int .i64 (S:Nat))/\wx.cell? ⟨r,2,none⟩=some (.bool pb)/\wx.cell? ⟨r,3,none⟩=some (.int .i64 (K:Nat))/\wx.cell? ⟨r,4,none⟩=some (.int .i64 0)/\wx.cell? ⟨r,5,none⟩=some (.int .i64 0)/\wx.cell? ⟨r,6,none⟩=some (.int .i64 0)) (exact HS4.out _ (by(repeat(first|(with_reducible first|exact Below.refl _ _|assumption|refine Below.drew ?_|refine below_drewN ?_ _|refine aZ ?_|refine dZ (by assumption) ?_)|((with_reducible first|refine fZ ?_ ?_|refine gZ ?_ ?_|refine iZ (by assumption) ?_ ?_);(focus(first|(simp;done)|(simp;omega)|omega|(simp at *;omega)))))))) (first|(go_at_call 18;(with_reducible refine(D2.out _ (by(repeat(first|(with_reducible first|exact Below.refl _ _|assumption|refine Below.drew ?_|refine below_drewN ?_ _|refine aZ ?_|refine dZ (by assumption) ?_)|((with_reducible first|refine fZ ?_ ?_|refine gZ ?_ ?_|refine iZ (by assumption) ?_ ?_);(focus(first|(simp;done)|(simp;omega)|omega|(simp at *;omega)))))))).mono ?_);rintro e w5 ⟨pv,rfl,hb5,hok⟩;have BB:Below w4.heap.size w4 w5:=dZ hb5 (by(repeat(first|(with_reducible first|exact Below.refl _ _|assumption|refine Below.drew ?_|refine below_drewN ?_ _|refine aZ ?_|refine dZ (by assumption) ?_)|((with_reducible first|refine fZ ?_ ?_|refine gZ ?_ ?_|refine iZ (by assumption) ?_ ?_);(focus(first|(simp;done)|(simp;omega)|omega|(simp at *;omega)))))))))
    all_goals
     have HB5:Hid (Below w.heap.size w w5):=HB4.out.trans (BB.mono HB4.out.size)
     have HZ5:=hid (HZ4.out.step BB)
     have hr5:=HR4.out.step BB
     by_cases hoe:oe=0
     ·subst hoe
      obtain⟨gb,rfl,hba⟩:=hok (by first|trivial|rfl)
      have HBA:=hid (hba.mono (b2:=w.heap.size) (by show _<=w4.heap.size;exact HB4.out.size))
      have HFO:Hid (ngZ ls=0):=HO.out.symm.trans HOO.out
      have hn1:=HZ5.out
      have v0:=hn1.cell 0;have v1:=hn1.cell 1;have v2:=hn1.cell 2;have v3:=hn1.cell 3;have v4:=hn1.cell 4;have v5:=hn1.cell 5;simp only[List.getElem?_toArray,List.getElem?_cons_zero,List.getElem?_cons_succ]at v0 v1 v2 v3 v4 v5
      have vf0:=hn1.frozen 0;have vf1:=hn1.frozen 1;have vf2:=hn1.frozen 2;have vf3:=hn1.frozen 3;have vf4:=hn1.frozen 4;have vf5:=hn1.frozen 5
      have s0:=hr5.cell 0;have s1:=hr5.cell 1;have s2:=hr5.cell 2;have s3:=hr5.cell 3;have s4:=hr5.cell 4;have s5:=hr5.cell 5;have s6:=hr5.cell 6
      simp only[List.getElem?_toArray,List.getElem?_cons_zero,List.getElem?_cons_succ]at s0 s1 s2 s3 s4 s5 s6
      have HN1:=hid hn1
      have hrx:¬r=w.heap.size:=by omega
      have hrx':¬w.heap.size=r:=by omega
      clear hn1 hr5 hba hok hb5 BB HS4 HR4 HZ4 HZ5 D2 HOO HB4
      go_wp2_with fail
      refine bodyPost_ret (v:= .tuple #[.agg #[.int .i64 (S:Nat), .bool pb, .int .i64 (K:Nat), .int .i64 0, .int .i64 0, .int .i64 0], .pointer (some ⟨gb,0,none⟩), .int .i64 0]) ?_ rfl ?_
      ·have hx3:=((((((HN1.out.set 0 (.int .i64 (S:Nat))).set 1 (.bool pb)).set 2 (.int .i64 (K:Nat))).set 3 (.int .i64 0)).set 4 (.int .i64 0)).set 5 (.int .i64 0))
       have e0:=hx3.cell 0;have e1:=hx3.cell 1;have e2:=hx3.cell 2;have e3:=hx3.cell 3;have e4:=hx3.cell 4;have e5:=hx3.cell 5
       simp at e0 e1 e2 e3 e4 e5
       simp[results,Tryz.results9,go_sem,e0,e1,e2,e3,e4,e5]
      ·refine⟨?_,fun h=>absurd HFO.out h,fun _=>⟨gb,by rw[<-HOVV.out],?_⟩⟩
       ·repeat (first|((with_reducible refine fZ ?_ ?_);(focus (exact Nat.le_refl _)))|(with_reducible refine Below.drew ?_))
        exact HB5.out
       ·exact((((((HBA.out.set HN1.out 0 (.int .i64 (S:Nat))).set (HN1.out.set 0 (.int .i64 (S:Nat))) 1 (.bool pb)).set ((HN1.out.set 0 (.int .i64 (S:Nat))).set 1 (.bool pb)) 2 (.int .i64 (K:Nat))).set (((HN1.out.set 0 (.int .i64 (S:Nat))).set 1 (.bool pb)).set 2 (.int .i64 (K:Nat))) 3 (.int .i64 0)).set ((((HN1.out.set 0 (.int .i64 (S:Nat))).set 1 (.bool pb)).set 2 (.int .i64 (K:Nat))).set 3 (.int .i64 0)) 4 (.int .i64 0)).set (((((HN1.out.set 0 (.int .i64 (S:Nat))).set 1 (.bool pb)).set 2 (.int .i64 (K:Nat))).set 3 (.int .i64 0)).set 4 (.int .i64 0)) 5 (.int .i64 0))
     ·have gE:(oe != 0)=true:=by simpa using hoe
      have HF:Hid (O=oe):=HOO.out
      have HNE:=hid hoe
      have HZ:=HZ5
      have HBW:=HB5
      obtain⟨er,her⟩:∃er:Int,er=oe:=⟨_,rfl⟩
      subst her
      clear hoe HOO hok hb5 BB HS4 HR4 HZ4 HZ5 D2 HB4 hr5
      have hn1:=HZ.out
      have v0:=hn1.cell 0;have v1:=hn1.cell 1;have v2:=hn1.cell 2;have v3:=hn1.cell 3;have v4:=hn1.cell 4;have v5:=hn1.cell 5;simp only[List.getElem?_toArray,List.getElem?_cons_zero,List.getElem?_cons_succ]at v0 v1 v2 v3 v4 v5
      have vf0:=hn1.frozen 0;have vf1:=hn1.frozen 1;have vf2:=hn1.frozen 2;have vf3:=hn1.frozen 3;have vf4:=hn1.frozen 4;have vf5:=hn1.frozen 5
      have HN1:=hid hn1
      clear hn1
      go_wp2_with fail
      refine bodyPost_ret (v:= .tuple #[.agg #[.int .i64 0, .bool false, .int .i64 0, .int .i64 0, .int .i64 0, .int .i64 0], .pointer none, .int .i64 er]) ?_ rfl ?_
      ·have hx3:=(((((HN1.out.set 0 (.int .i64 0)).set 1 (.bool false)).set 2 (.int .i64 0)).set 3 (.int .i64 0)).set 4 (.int .i64 0)).set 5 (.int .i64 0)
       have e0:=hx3.cell 0;have e1:=hx3.cell 1;have e2:=hx3.cell 2;have e3:=hx3.cell 3;have e4:=hx3.cell 4;have e5:=hx3.cell 5
       simp at e0 e1 e2 e3 e4 e5
       simp[results,Tryz.results9,go_sem,e0,e1,e2,e3,e4,e5]
      ·refine mmZ (HO.out.symm.trans HF.out) HNE.out ?_
       repeat (first|((with_reducible refine fZ ?_ ?_);(focus (exact Nat.le_refl _)))|(with_reducible refine Below.drew ?_))
       first|(with_reducible exact HBW.out)|(with_reducible exact Below.drew HBW.out)|(with_reducible exact below_drewN HBW.out _)
   ·have gE:(he != 0)=true:=by simpa using hhe
    have HF:Hid (O=he):=by have h:=HOV.out;rw[if_pos hhe]at h;exact h
    have HNE:=hid hhe
    have HZ:=HZ4
    have HBW:=HB4
    obtain⟨er,her⟩:∃er:Int,er=he:=⟨_,rfl⟩
    subst her
    clear hhe HOV hok4 HZ4 HB4 HNN HKT
    have hn1:=HZ.out
    have v0:=hn1.cell 0;have v1:=hn1.cell 1;have v2:=hn1.cell 2;have v3:=hn1.cell 3;have v4:=hn1.cell 4;have v5:=hn1.cell 5;simp only[List.getElem?_toArray,List.getElem?_cons_zero,List.getElem?_cons_succ]at v0 v1 v2 v3 v4 v5
    have vf0:=hn1.frozen 0;have vf1:=hn1.frozen 1;have vf2:=hn1.frozen 2;have vf3:=hn1.frozen 3;have vf4:=hn1.frozen 4;have vf5:=hn1.frozen 5
    have HN1:=hid hn1
    clear hn1
    go_wp2_with fail
    refine bodyPost_ret (v:= .tuple #[.agg #[.int .i64 0, .bool false, .int .i64 0, .int .i64 0, .int .i64 0, .int .i64 0], .pointer none, .int .i64 er]) ?_ rfl ?_
    ·have hx3:=(((((HN1.out.set 0 (.int .i64 0)).set 1 (.bool false)).set 2 (.int .i64 0)).set 3 (.int .i64 0)).set 4 (.int .i64 0)).set 5 (.int .i64 0)
     have e0:=hx3.cell 0;have e1:=hx3.cell 1;have e2:=hx3.cell 2;have e3:=hx3.cell 3;have e4:=hx3.cell 4;have e5:=hx3.cell 5
     simp at e0 e1 e2 e3 e4 e5
     simp[results,Tryz.results9,go_sem,e0,e1,e2,e3,e4,e5]
    ·refine mmZ (HO.out.symm.trans HF.out) HNE.out ?_
     repeat (first|((with_reducible refine fZ ?_ ?_);(focus (exact Nat.le_refl _)))|(with_reducible refine Below.drew ?_))
     first|(with_reducible exact HBW.out)|(with_reducible exact Below.drew HBW.out)|(with_reducible exact below_drewN HBW.out _)
  ·have gV:((mv:Int) != 2)=true:=by rw[bne_iff_ne];omega
   have HF:Hid (O=4):=by rw[if_pos hmv]at hO;exact hO
   have HNE:Hid ((4:Int)≠0):=show(4:Int)≠0 by decide
   have HBW:=HB1
   clear hmv hO HOE D0 D1
   have hn1:=HZ.out
   have v0:=hn1.cell 0;have v1:=hn1.cell 1;have v2:=hn1.cell 2;have v3:=hn1.cell 3;have v4:=hn1.cell 4;have v5:=hn1.cell 5;simp only[List.getElem?_toArray,List.getElem?_cons_zero,List.getElem?_cons_succ]at v0 v1 v2 v3 v4 v5
   have vf0:=hn1.frozen 0;have vf1:=hn1.frozen 1;have vf2:=hn1.frozen 2;have vf3:=hn1.frozen 3;have vf4:=hn1.frozen 4;have vf5:=hn1.frozen 5
   have HN1:=hid hn1
   clear hn1
   go_wp2_with fail
   refine bodyPost_ret (v:= .tuple #[.agg #[.int .i64 0, .bool false, .int .i64 0, .int .i64 0, .int .i64 0, .int .i64 0], .pointer none, .int .i64 4]) ?_ rfl ?_
   ·have hx3:=(((((HN1.out.set 0 (.int .i64 0)).set 1 (.bool false)).set 2 (.int .i64 0)).set 3 (.int .i64 0)).set 4 (.int .i64 0)).set 5 (.int .i64 0)
    have e0:=hx3.cell 0;have e1:=hx3.cell 1;have e2:=hx3.cell 2;have e3:=hx3.cell 3;have e4:=hx3.cell 4;have e5:=hx3.cell 5
    simp at e0 e1 e2 e3 e4 e5
    simp[results,Tryz.results9,go_sem,e0,e1,e2,e3,e4,e5]
   ·refine mmZ (HO.out.symm.trans HF.out) HNE.out ?_
    repeat (first|((with_reducible refine fZ ?_ ?_);(focus (exact Nat.le_refl _)))|(with_reducible refine Below.drew ?_))
    first|(with_reducible exact HBW.out)|(with_reducible exact Below.drew HBW.out)|(with_reducible exact below_drewN HBW.out _)
 ·have gE:(me != 0)=true:=by simpa using hme
  have HF:Hid (O=me):=by have h:=HOE.out;rw[if_pos hme]at h;exact h
  have HNE:=hid hme
  have HBW:=HB1
  obtain⟨er,her⟩:∃er:Int,er=me:=⟨_,rfl⟩
  subst her
  clear hme HOE D0 D1
  have hn1:=HZ.out
  have v0:=hn1.cell 0;have v1:=hn1.cell 1;have v2:=hn1.cell 2;have v3:=hn1.cell 3;have v4:=hn1.cell 4;have v5:=hn1.cell 5;simp only[List.getElem?_toArray,List.getElem?_cons_zero,List.getElem?_cons_succ]at v0 v1 v2 v3 v4 v5
  have vf0:=hn1.frozen 0;have vf1:=hn1.frozen 1;have vf2:=hn1.frozen 2;have vf3:=hn1.frozen 3;have vf4:=hn1.frozen 4;have vf5:=hn1.frozen 5
  have HN1:=hid hn1
  clear hn1
  go_wp2_with fail
  refine bodyPost_ret (v:= .tuple #[.agg #[.int .i64 0, .bool false, .int .i64 0, .int .i64 0, .int .i64 0, .int .i64 0], .pointer none, .int .i64 er]) ?_ rfl ?_
  ·have hx3:=(((((HN1.out.set 0 (.int .i64 0)).set 1 (.bool false)).set 2 (.int .i64 0)).set 3 (.int .i64 0)).set 4 (.int .i64 0)).set 5 (.int .i64 0)
   have e0:=hx3.cell 0;have e1:=hx3.cell 1;have e2:=hx3.cell 2;have e3:=hx3.cell 3;have e4:=hx3.cell 4;have e5:=hx3.cell 5
   simp at e0 e1 e2 e3 e4 e5
   simp[results,Tryz.results9,go_sem,e0,e1,e2,e3,e4,e5]
  ·refine mmZ (HO.out.symm.trans HF.out) HNE.out ?_
   repeat (first|((with_reducible refine fZ ?_ ?_);(focus (exact Nat.le_refl _)))|(with_reducible refine Below.drew ?_))
   first|(with_reducible exact HBW.out)|(with_reducible exact Below.drew HBW.out)|(with_reducible exact below_drewN HBW.out _)
end Go.Proofs.YtbgoibedicbkjaaGreatDoor.Body

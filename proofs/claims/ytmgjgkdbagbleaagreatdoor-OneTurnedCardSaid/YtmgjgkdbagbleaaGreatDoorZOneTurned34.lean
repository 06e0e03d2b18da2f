/-
  Plain: a frame, as it is read (chapter 12). The walks of (*block.frame).head and rest. The walk of (*block.frame).rest. The walk of (*block.frame).bytes. The walks of block.open and block.Read.
-/
import Derived.Test.YtmgjgkdbagbleaaGreatDoorZOneTurned15
import Derived.Test.YtmgjgkdbagbleaaGreatDoorZOneTurned16
import Derived.Test.YtmgjgkdbagbleaaGreatDoorZOneTurned33
import Derived.Test.YtmgjgkdbagbleaaGreatDoorZOneTurned20
import Derived.Deep.RegionHeld3
namespace Go.Proofs.YtmgjgkdbagbleaaGreatDoor.Block
open Go.Proofs.YtmgjgkdbagbleaaGreatDoor.Nums Go.Proofs.YtmgjgkdbagbleaaGreatDoor.Crc
open Go.Proofs.YtmgjgkdbagbleaaGreatDoor.Huff (readToks)
def hWay (bs : List Nat) : Nat := byteV bs 0 0
def hA1 (bs : List Nat) : Nat := takeA bs 0 0 1
def hE1 (bs : List Nat) : Int := takeE bs 0 0 1
def hE2 (bs : List Nat) : Int := if 1 < hWay bs then failE (hE1 bs) 2 else hE1 bs
def hN (bs : List Nat) : Nat := intV 32768 bs (hA1 bs) (hE2 bs)
def hA2 (bs : List Nat) : Nat := intA 32768 bs (hA1 bs) (hE2 bs)
def hE3 (bs : List Nat) : Int := intE 32768 bs (hA1 bs) (hE2 bs)
def hP (bs : List Nat) : Nat := intV 32768 bs (hA2 bs) (hE3 bs)
def hA3 (bs : List Nat) : Nat := intA 32768 bs (hA2 bs) (hE3 bs)
def hE4 (bs : List Nat) : Int := intE 32768 bs (hA2 bs) (hE3 bs)
def hE5 (bs : List Nat) : Int := if 1032 * hP bs + 64 < hN bs then failE (hE4 bs) 6 else hE4 bs
def hBody (bs : List Nat) : List Nat := takeO bs (hA3 bs) (hE5 bs) (hP bs)
def hA4 (bs : List Nat) : Nat := takeA bs (hA3 bs) (hE5 bs) (hP bs)
def hE6 (bs : List Nat) : Int := takeE bs (hA3 bs) (hE5 bs) (hP bs)
def hA5 (bs : List Nat) : Nat := takeA bs (hA4 bs) (hE6 bs) 4
def hE7 (bs : List Nat) : Int := takeE bs (hA4 bs) (hE6 bs) 4
def hE8 (bs : List Nat) : Int := if hE7 bs ≠ 0 then hE7 bs else cutE (bs.take (hA5 bs))
def byE (way n p : Nat) (body : List Nat) : Int :=
  if way = 0 then if n ≠ p then 2 else 0
  else if (readToks body n).2 ≠ 0 then (readToks body n).2
  else if (Lz.play (readToks body n).1 n).2 ≠ 0 then (Lz.play (readToks body n).1 n).2
  else if (Lz.play (readToks body n).1 n).1.length < n then 2 else 0
def byO (way n p : Nat) (body : List Nat) : List Nat := if byE way n p body ≠ 0 then [] else if way = 0 then body else (Lz.play (readToks body n).1 n).1
def opE (bs : List Nat) : Int := if hE8 bs ≠ 0 then hE8 bs else byE (hWay bs) (hN bs) (hP bs) (hBody bs)
def opO (bs : List Nat) : List Nat := if opE bs ≠ 0 then [] else byO (hWay bs) (hN bs) (hP bs) (hBody bs)
def opA (bs : List Nat) : Nat := if opE bs ≠ 0 then 0 else hA5 bs
theorem byte_le {bs : List Nat} (h8 : ∀ x ∈ bs, x ≤ 255) (at_ : Nat) (er : Int) : byteV bs at_ er ≤ 255 := by
  unfold byteV
  split
  · omega
  · by_cases h : at_ < bs.length
    · rw [List.getD_eq_getElem?_getD, List.getElem?_eq_getElem h]
      exact h8 _ (List.getElem_mem h)
    · rw [List.getD_eq_getElem?_getD, List.getElem?_eq_none (by omega)]; show 0 ≤ 255; omega
theorem int_le {bs : List Nat} (h8 : ∀ x ∈ bs, x ≤ 255) (most at_ : Nat) (er : Int) : intV most bs at_ er ≤ most := by
  unfold intV
  split
  · omega
  · exact (limP_spec most (bs.drop at_) (fun x hx => h8 x (List.mem_of_mem_drop hx))).1
theorem intA_le {bs : List Nat} (h8 : ∀ x ∈ bs, x ≤ 255) (most at_ : Nat) (er : Int) (h : at_ ≤ bs.length) : intA most bs at_ er ≤ bs.length := by
  unfold intA
  split
  · exact h
  · have := (limP_spec most (bs.drop at_) (fun x hx => h8 x (List.mem_of_mem_drop hx))).2.1
    rw [List.length_drop] at this
    omega
theorem hA1_le (bs : List Nat) : hA1 bs ≤ bs.length := takeA_le bs 0 0 1 (Nat.zero_le _)
section
variable {bs : List Nat} (h8 : ∀ x ∈ bs, x ≤ 255)
include h8
theorem hA2_le : hA2 bs ≤ bs.length := intA_le h8 _ _ _ (hA1_le bs)
theorem hA3_le : hA3 bs ≤ bs.length := intA_le h8 _ _ _ (hA2_le h8)
theorem hA4_le : hA4 bs ≤ bs.length := takeA_le bs _ _ _ (hA3_le h8)
theorem hA5_le : hA5 bs ≤ bs.length := takeA_le bs _ _ _ (hA4_le h8)
theorem hN_le : hN bs ≤ 32768 := int_le h8 _ _ _
theorem hP_le : hP bs ≤ 32768 := int_le h8 _ _ _
theorem hWay_le : hWay bs ≤ 255 := byte_le h8 _ _
end
theorem takeO_mem {bs : List Nat} {at_ n : Nat} {er : Int} {x : Nat} (h : x ∈ takeO bs at_ er n) : x ∈ bs := by
  unfold takeO at h
  split at h
  · cases h
  · split at h
    · cases h
    · exact List.mem_of_mem_drop (List.mem_of_mem_take h)
end Go.Proofs.YtmgjgkdbagbleaaGreatDoor.Block
namespace Go.Proofs.YtmgjgkdbagbleaaGreatDoor.Block
open Go.RowKit Go.Proofs.YtmgjgkdbagbleaaGreatDoor.Mem Go.Proofs.YtmgjgkdbagbleaaGreatDoor.Own Go.Proofs.YtmgjgkdbagbleaaGreatDoor.Canon
open Go.Proofs.YtmgjgkdbagbleaaGreatDoor.Nums Go.Proofs.YtmgjgkdbagbleaaGreatDoor.Crc
structure Fr (w : World) (fb g base : Nat) (bs : List Nat) (A : Option Addr) (c at_ : Nat) (er : Int) (way n p : Nat) (bv : Value) : Prop where
  blk : Blk w fb 262 #[.pointer (some ⟨g, 0, none⟩), .int .i64 way, .int .i64 n, .int .i64 p, bv]
  cur : Cur w g base bs A c at_ er
  lo : base ≤ fb
section
variable {w w' : World} {fb g base : Nat} {bs : List Nat} {A : Option Addr} {c at_ : Nat} {er : Int} {way n p : Nat} {bv : Value}
theorem Fr.ne (h : Fr w fb g base bs A c at_ er way n p bv) : fb ≠ g := Blk.apart h.blk h.cur.blk (by decide)
theorem Fr.drew (h : Fr w fb g base bs A c at_ er way n p bv) : Fr w.drew fb g base bs A c at_ er way n p bv := ⟨h.blk, h.cur.drew, h.lo⟩
theorem Fr.drewN (h : Fr w fb g base bs A c at_ er way n p bv) (q : Nat) : Fr (w.drewN q) fb g base bs A c at_ er way n p bv := ⟨h.blk, h.cur.drewN q, h.lo⟩
theorem Fr.ptr (h : Fr w fb g base bs A c at_ er way n p bv) : w.cell? ⟨fb, 0, none⟩ = some (.pointer (some ⟨g, 0, none⟩)) := h.blk.cell 0
theorem cur_far {u : Value} {i : Nat} (h : Cur w g base bs A c at_ er) {cs : Array Value} (hb : Blk w fb 262 cs) : Cur (w.setCell ⟨fb, i, none⟩ u) g base bs A c at_ er :=
  ⟨h.blk.far (fun e => Blk.apart hb h.blk (by decide) e.symm) _, set_own h.own (own_blk h.own hb (by decide)) _, h.le, h.lo⟩
theorem Fr.on {at2 : Nat} {er2 : Int} (h : Fr w fb g base bs A c at_ er way n p bv) (hc : Cur w' g base bs A c at2 er2) (hk : Kept (Others g w) w w') : Fr w' fb g base bs A c at2 er2 way n p bv :=
  ⟨(hk.block fb ⟨h.blk.lt, h.ne⟩).trans h.blk, hc, h.lo⟩
theorem Fr.fail {at2 : Nat} {er2 : Int} (h : Fr w fb g base bs A c at_ er way n p bv) (hc : Cur w' g base bs A c at2 er2) (hk : Kept (fun x => x ≠ g) w w') : Fr w' fb g base bs A c at2 er2 way n p bv :=
  ⟨(hk.block fb h.ne).trans h.blk, hc, h.lo⟩
theorem Fr.setWay (h : Fr w fb g base bs A c at_ er way n p bv) (x : Nat) : Fr (w.setCell ⟨fb, 1, none⟩ (.int .i64 x)) fb g base bs A c at_ er x n p bv := ⟨h.blk.set 1 _, cur_far h.cur h.blk, h.lo⟩
theorem Fr.setN (h : Fr w fb g base bs A c at_ er way n p bv) (x : Nat) : Fr (w.setCell ⟨fb, 2, none⟩ (.int .i64 x)) fb g base bs A c at_ er way x p bv := ⟨h.blk.set 2 _, cur_far h.cur h.blk, h.lo⟩
theorem Fr.setP (h : Fr w fb g base bs A c at_ er way n p bv) (x : Nat) : Fr (w.setCell ⟨fb, 3, none⟩ (.int .i64 x)) fb g base bs A c at_ er way n x bv := ⟨h.blk.set 3 _, cur_far h.cur h.blk, h.lo⟩
theorem Fr.setB (h : Fr w fb g base bs A c at_ er way n p bv) (x : Value) : Fr (w.setCell ⟨fb, 4, none⟩ x) fb g base bs A c at_ er way n p x := ⟨h.blk.set 4 _, cur_far h.cur h.blk, h.lo⟩
end
def Rest (fb g : Nat) (w : World) (x : Nat) : Prop := x < w.heap.size ∧ x ≠ g ∧ x ≠ fb
theorem kept_on {fb g : Nat} {w w1 w2 : World} (h : Kept (Rest fb g w) w w1) (k : Kept (Others g w1) w1 w2) : Kept (Rest fb g w) w w2 :=
  h.trans ⟨k.os, k.tape, k.output, k.size, fun x hx => k.block x ⟨by have := hx.1; have := h.size; omega, hx.2.1⟩⟩
theorem kept_fail {fb g : Nat} {w w1 w2 : World} (h : Kept (Rest fb g w) w w1) (k : Kept (fun x => x ≠ g) w1 w2) : Kept (Rest fb g w) w w2 :=
  h.trans ⟨k.os, k.tape, k.output, k.size, fun x hx => k.block x hx.2.1⟩
theorem kept_set {fb g i : Nat} {w w1 : World} {u : Value} (h : Kept (Rest fb g w) w w1) : Kept (Rest fb g w) w (w1.setCell ⟨fb, i, none⟩ u) := h.set (fun h => h.2.2 rfl) _
set_option maxHeartbeats 1000000 in
set_option maxRecDepth 100000 in
theorem head_any (w : World) (fb g base : Nat) (bs : List Nat) (A : Option Addr) (c : Nat) (bv : Value) (hle : bs.length ≤ 100000) (h8 : ∀ x ∈ bs, x ≤ 255) (h : Fr w fb g base bs A c 0 0 0 0 0 bv) :
    Calls Tryz.prog 263 #[.pointer (some ⟨fb, 0, none⟩)] w fun e w' => e = .returned (.tuple #[]) ∧ Fr w' fb g base bs A c (hA3 bs) (hE5 bs) (hWay bs) (hN bs) (hP bs) bv ∧ Kept (Rest fb g w) w w' := by
  have C1 : Hid (∀ wx, Cur wx g base bs A c 0 0 → Calls Tryz.prog 129 #[.pointer (some ⟨g, 0, none⟩)] wx fun e w' => e = .returned (.int .u8 (hWay bs : Nat)) ∧ Cur w' g base bs A c (hA1 bs) (hE1 bs) ∧ Kept (Others g wx) wx w') := fun wx hc => byte_any wx g base bs A c 0 0 hle hc
  have C2 : Hid (1 < hWay bs → ∀ wx, Cur wx g base bs A c (hA1 bs) (hE1 bs) → Calls Tryz.prog 130 #[.pointer (some ⟨g, 0, none⟩), .int .i64 2] wx fun e w' => e = .returned (.tuple #[]) ∧ Cur w' g base bs A c (hA1 bs) (hE2 bs) ∧ Kept (fun x => x ≠ g) wx w') := fun h1 wx hc => by
    rw [show hE2 bs = failE (hE1 bs) 2 from if_pos h1]; exact fail_any wx g base bs A c _ _ 2 hc
  have C2' : Hid (¬ 1 < hWay bs → hE2 bs = hE1 bs) := fun h1 => if_neg h1
  have C3 : Hid (∀ wx, Cur wx g base bs A c (hA1 bs) (hE2 bs) → Calls Tryz.prog 128 #[.pointer (some ⟨g, 0, none⟩), .int .i64 32768] wx fun e w' => e = .returned (.int .i64 (hN bs : Nat)) ∧ Cur w' g base bs A c (hA2 bs) (hE3 bs) ∧ Kept (Others g wx) wx w') := fun wx hc => int_any wx g base bs A c _ _ 32768 hle h8 (by omega) hc
  have C4 : Hid (∀ wx, Cur wx g base bs A c (hA2 bs) (hE3 bs) → Calls Tryz.prog 128 #[.pointer (some ⟨g, 0, none⟩), .int .i64 32768] wx fun e w' => e = .returned (.int .i64 (hP bs : Nat)) ∧ Cur w' g base bs A c (hA3 bs) (hE4 bs) ∧ Kept (Others g wx) wx w') := fun wx hc => int_any wx g base bs A c _ _ 32768 hle h8 (by omega) hc
  have C5 : Hid (1032 * hP bs + 64 < hN bs → ∀ wx, Cur wx g base bs A c (hA3 bs) (hE4 bs) → Calls Tryz.prog 130 #[.pointer (some ⟨g, 0, none⟩), .int .i64 6] wx fun e w' => e = .returned (.tuple #[]) ∧ Cur w' g base bs A c (hA3 bs) (hE5 bs) ∧ Kept (fun x => x ≠ g) wx w') := fun h1 wx hc => by
    rw [show hE5 bs = failE (hE4 bs) 6 from if_pos h1]; exact fail_any wx g base bs A c _ _ 6 hc
  have C5' : Hid (¬ 1032 * hP bs + 64 < hN bs → hE5 bs = hE4 bs) := fun h1 => if_neg h1
  have hw8 := hWay_le h8
  have hn8 := hN_le h8
  have hp8 := hP_le h8
  generalize hWay bs = wy at *
  generalize hN bs = n at *
  generalize hP bs = p at *
  generalize hA1 bs = a1 at *
  generalize hA2 bs = a2 at *
  generalize hA3 bs = a3 at *
  generalize hE1 bs = e1 at *
  generalize hE2 bs = e2 at *
  generalize hE3 bs = e3 at *
  generalize hE4 bs = e4 at *
  generalize hE5 bs = e5 at *
  have d0 := h.ptr
  have H := Lib.hid h
  have s1 : IntKind.i64.wrap (wy : Int) = (wy : Int) := by rw [IntWalk.i64_in _ (by omega)]
  have s2 : IntKind.i64.wrap (1032 * (p : Int)) = 1032 * (p : Int) := by rw [IntWalk.i64_in _ (by omega)]
  have s3 : IntKind.i64.wrap (1032 * (p : Int) + 64) = 1032 * (p : Int) + 64 := by rw [IntWalk.i64_in _ (by omega)]
  clear h h8
  go_enter Tryz.func263, Tryz.ntmps263
  go_wp2_with fail
  refine (C1.out _ H.out.cur).mono ?_
  rintro e w1 ⟨rfl, hc1, hk1⟩
  have F1 := H.out.on hc1 hk1
  have K1 : Hid (Kept (Rest fb g w) w w1) := kept_on (Kept.refl _ _) hk1
  have f1 := F1.blk.frozen 1
  have q1 := F1.blk.cell 1
  simp only [List.getElem?_toArray, List.getElem?_cons_zero, List.getElem?_cons_succ] at q1
  have F2 := Lib.hid (F1.setWay wy)
  have K2 : Hid (Kept (Rest fb g w) w (w1.setCell ⟨fb, 1, none⟩ (.int .i64 wy))) := kept_set K1.out
  have d0 := F1.ptr
  clear F1 hc1 hk1 K1 H C1
  go_upto_region 1 with fail
  generalize w1.setCell ⟨fb, 1, none⟩ (.int .i64 wy) = w2 at *
  clear d0 f1 q1
  have d0 := F2.out.ptr
  have d1 := F2.out.blk.cell 1
  simp only [List.getElem?_toArray, List.getElem?_cons_zero, List.getElem?_cons_succ] at d1
  by_cases hw1 : 1 < wy
  · have g1 : decide ((1 : Int) < (wy : Int)) = true := by simp; omega
    have g1' : decide (1 < wy) = true := by simp; omega
    go_wp2_with fail
    refine (C2.out hw1 _ F2.out.cur).mono ?_
    rintro e w3 ⟨rfl, hc3, hk3⟩
    have F3 := Lib.hid (F2.out.fail hc3 hk3)
    have K3 : Hid (Kept (Rest fb g w) w w3) := kept_fail K2.out hk3
    clear hc3 hk3 F2 K2 d0 d1 C2 C2' hw1 g1 g1'
    have d0 := F3.out.ptr
    go_wp2_with fail
    refine (C3.out _ F3.out.cur).mono ?_
    rintro e w4 ⟨rfl, hc4, hk4⟩
    have F4 := F3.out.on hc4 hk4
    have K4 : Hid (Kept (Rest fb g w) w w4) := kept_on K3.out hk4
    have f2 := F4.blk.frozen 2
    have q2 := F4.blk.cell 2
    simp only [List.getElem?_toArray, List.getElem?_cons_zero, List.getElem?_cons_succ] at q2
    have F5 := Lib.hid (F4.setN n)
    have K5 : Hid (Kept (Rest fb g w) w (w4.setCell ⟨fb, 2, none⟩ (.int .i64 n))) := kept_set K4.out
    clear hc4 hk4 F3 K3 K4 C3 d0 F4
    go_upto_region 4 with fail
    generalize w4.setCell ⟨fb, 2, none⟩ (.int .i64 n) = w5 at *
    clear f2 q2
    have d0 := F5.out.ptr
    go_wp2_with fail
    refine (C4.out _ F5.out.cur).mono ?_
    rintro e w6 ⟨rfl, hc6, hk6⟩
    have F6 := F5.out.on hc6 hk6
    have K6 : Hid (Kept (Rest fb g w) w w6) := kept_on K5.out hk6
    have f3 := F6.blk.frozen 3
    have q3 := F6.blk.cell 3
    simp only [List.getElem?_toArray, List.getElem?_cons_zero, List.getElem?_cons_succ] at q3
    have F7 := Lib.hid (F6.setP p)
    have K7 : Hid (Kept (Rest fb g w) w (w6.setCell ⟨fb, 3, none⟩ (.int .i64 p))) := kept_set K6.out
    clear hc6 hk6 F5 K5 K6 C4 d0 F6
    go_upto_region 5 with fail
    generalize w6.setCell ⟨fb, 3, none⟩ (.int .i64 p) = w7 at *
    clear f3 q3
    have d0 := F7.out.ptr
    have d2 := F7.out.blk.cell 2
    have d3 := F7.out.blk.cell 3
    simp only [List.getElem?_toArray, List.getElem?_cons_zero, List.getElem?_cons_succ] at d2 d3
    by_cases hlim : 1032 * p + 64 < n
    · have g4 : decide (1032 * (p : Int) + 64 < (n : Int)) = true := by simp; omega
      have g5 : decide (1032 * p + 64 < n) = true := by simp; omega
      go_quiet (fail)
      have F8 := Lib.hid (F7.out.drewN nq)
      go_wp2_with fail
      refine (C5.out hlim _ F8.out.cur).mono ?_
      rintro e w8 ⟨rfl, hc8, hk8⟩
      have F9 := Lib.hid (F8.out.fail hc8 hk8)
      have K9 : Hid (Kept (Rest fb g w) w w8) := kept_fail (K7.out.drewN nq) hk8
      clear hc8 hk8 F8 F7 K7 C5 C5' d0 d2 d3
      go_wp2_with fail
      refine bodyPost_end (results_none rfl _ _ _) rfl ?_
      exact ⟨rfl, F9.out, K9.out⟩
    · have g4 : decide (1032 * (p : Int) + 64 < (n : Int)) = false := by simp; omega
      have g5 : decide (1032 * p + 64 < n) = false := by simp; omega
      have F8 : Hid (Fr w7 fb g base bs A c a3 e5 wy n p bv) := by rw [C5'.out hlim]; exact F7.out
      go_quiet (fail)
      go_wp2_with fail
      refine bodyPost_end (results_none rfl _ _ _) rfl ?_
      exact ⟨rfl, F8.out.drewN _, K7.out.drewN _⟩
  · have g1 : decide ((1 : Int) < (wy : Int)) = false := by simp; omega
    have g1' : decide (1 < wy) = false := by simp; omega
    have F3 : Hid (Fr w2 fb g base bs A c a1 e2 wy 0 0 bv) := by rw [C2'.out hw1]; exact F2.out
    have K3 := K2
    obtain ⟨w3, rfl⟩ : ∃ w3 : World, w3 = w2 := ⟨_, rfl⟩
    clear F2 K2 C2 C2' hw1
    go_wp2_with fail
    refine (C3.out _ F3.out.cur).mono ?_
    rintro e w4 ⟨rfl, hc4, hk4⟩
    have F4 := F3.out.on hc4 hk4
    have K4 : Hid (Kept (Rest fb g w) w w4) := kept_on K3.out hk4
    have f2 := F4.blk.frozen 2
    have q2 := F4.blk.cell 2
    simp only [List.getElem?_toArray, List.getElem?_cons_zero, List.getElem?_cons_succ] at q2
    have F5 := Lib.hid (F4.setN n)
    have K5 : Hid (Kept (Rest fb g w) w (w4.setCell ⟨fb, 2, none⟩ (.int .i64 n))) := kept_set K4.out
    clear hc4 hk4 F3 K3 K4 C3 d0 F4
    go_upto_region 4 with fail
    generalize w4.setCell ⟨fb, 2, none⟩ (.int .i64 n) = w5 at *
    clear f2 q2
    have d0 := F5.out.ptr
    go_wp2_with fail
    refine (C4.out _ F5.out.cur).mono ?_
    rintro e w6 ⟨rfl, hc6, hk6⟩
    have F6 := F5.out.on hc6 hk6
    have K6 : Hid (Kept (Rest fb g w) w w6) := kept_on K5.out hk6
    have f3 := F6.blk.frozen 3
    have q3 := F6.blk.cell 3
    simp only [List.getElem?_toArray, List.getElem?_cons_zero, List.getElem?_cons_succ] at q3
    have F7 := Lib.hid (F6.setP p)
    have K7 : Hid (Kept (Rest fb g w) w (w6.setCell ⟨fb, 3, none⟩ (.int .i64 p))) := kept_set K6.out
    clear hc6 hk6 F5 K5 K6 C4 d0 F6
    go_upto_region 5 with fail
    generalize w6.setCell ⟨fb, 3, none⟩ (.int .i64 p) = w7 at *
    clear f3 q3
    have d0 := F7.out.ptr
    have d2 := F7.out.blk.cell 2
    have d3 := F7.out.blk.cell 3
    simp only [List.getElem?_toArray, List.getElem?_cons_zero, List.getElem?_cons_succ] at d2 d3
    by_cases hlim : 1032 * p + 64 < n
    · have g4 : decide (1032 * (p : Int) + 64 < (n : Int)) = true := by simp; omega
      have g5 : decide (1032 * p + 64 < n) = true := by simp; omega
      go_quiet (fail)
      have F8 := Lib.hid (F7.out.drewN nq)
      go_wp2_with fail
      refine (C5.out hlim _ F8.out.cur).mono ?_
      rintro e w8 ⟨rfl, hc8, hk8⟩
      have F9 := Lib.hid (F8.out.fail hc8 hk8)
      have K9 : Hid (Kept (Rest fb g w) w w8) := kept_fail (K7.out.drewN nq) hk8
      clear hc8 hk8 F8 F7 K7 C5 C5' d0 d2 d3
      go_wp2_with fail
      refine bodyPost_end (results_none rfl _ _ _) rfl ?_
      exact ⟨rfl, F9.out, K9.out⟩
    · have g4 : decide (1032 * (p : Int) + 64 < (n : Int)) = false := by simp; omega
      have g5 : decide (1032 * p + 64 < n) = false := by simp; omega
      have F8 : Hid (Fr w7 fb g base bs A c a3 e5 wy n p bv) := by rw [C5'.out hlim]; exact F7.out
      go_quiet (fail)
      go_wp2_with fail
      refine bodyPost_end (results_none rfl _ _ _) rfl ?_
      exact ⟨rfl, F8.out.drewN _, K7.out.drewN _⟩
end Go.Proofs.YtmgjgkdbagbleaaGreatDoor.Block
namespace Go.Proofs.YtmgjgkdbagbleaaGreatDoor.Block
open Go.RowKit Go.Proofs.YtmgjgkdbagbleaaGreatDoor.Mem Go.Proofs.YtmgjgkdbagbleaaGreatDoor.Own Go.Proofs.YtmgjgkdbagbleaaGreatDoor.Canon
open Go.Proofs.YtmgjgkdbagbleaaGreatDoor.Nums Go.Proofs.YtmgjgkdbagbleaaGreatDoor.Crc
set_option maxHeartbeats 1000000 in
set_option maxRecDepth 100000 in
theorem rest_any (w : World) (fb g base : Nat) (bs : List Nat) (A : Option Addr) (c : Nat) (way n p : Nat) (X : Option Addr) (d : Nat) (hle : bs.length ≤ 100000) (hd : bs.length ≤ d) (h8 : ∀ x ∈ bs, x ≤ 255) (hp : p = hP bs) (ht : TabAt w)
    (hx : Row w w.heap.size X bs.length 1 (numF .u8 bs)) (hX : 0 < bs.length → ∀ a, X = some a → a.add 0 = a) (hXb : 0 < bs.length → ∀ a, X = some a → a.block ≠ g ∧ a.block ≠ fb) (htg : 0 ≠ g ∧ 0 ≠ fb) (hba : base ≤ w.heap.size)
    (h : Fr w fb g base bs A c (hA3 bs) (hE5 bs) way n p (.slice none 0 0)) :
    Calls Tryz.prog 264 #[.pointer (some ⟨fb, 0, none⟩), .slice X bs.length d] w fun e w' => e = .returned (.tuple #[]) ∧ ∃ v, w'.ownsRow base 5 1 v (hBody bs).length (numL .u8 (hBody bs)) ∧ Fr w' fb g base bs A c (hA5 bs) (hE8 bs) way n p v ∧ Kept (Rest fb g w) w w' := by
  have ha5 := hA5_le h8
  have C1 : Hid (∀ wx, Cur wx g base bs A c (hA3 bs) (hE5 bs) → Calls Tryz.prog 174 #[.pointer (some ⟨g, 0, none⟩), .int .i64 p] wx fun e w' => ∃ v, e = .returned v ∧ w'.ownsRow wx.heap.size 5 1 v (hBody bs).length (numL .u8 (hBody bs)) ∧ Cur w' g base bs A c (hA4 bs) (hE6 bs) ∧ Kept (Others g wx) wx w') := fun wx hc => by
    subst hp; exact take_any wx g base bs A c _ _ (hP bs) hle (by have := hP_le h8; omega) hc
  have C2 : Hid (∀ wx, Cur wx g base bs A c (hA4 bs) (hE6 bs) → Calls Tryz.prog 174 #[.pointer (some ⟨g, 0, none⟩), .int .i64 4] wx fun e w' => ∃ v, e = .returned v ∧ w'.ownsRow wx.heap.size 5 1 v (takeO bs (hA4 bs) (hE6 bs) 4).length (numL .u8 (takeO bs (hA4 bs) (hE6 bs) 4)) ∧ Cur w' g base bs A c (hA5 bs) (hE7 bs) ∧ Kept (Others g wx) wx w') := fun wx hc => take_any wx g base bs A c _ _ 4 hle (by omega) hc
  have C3 : Hid (∀ wx er, Cur wx g base bs A c (hA5 bs) er → Calls Tryz.prog 131 #[.pointer (some ⟨g, 0, none⟩)] wx fun e w' => e = .returned (.int .i64 er) ∧ w' = wx) := fun wx er hc => err_any wx g base bs A c _ er hc
  have C4 : Hid (∀ wx er, Cur wx g base bs A c (hA5 bs) er → Calls Tryz.prog 175 #[.pointer (some ⟨g, 0, none⟩)] wx fun e w' => e = .returned (.int .i64 (hA5 bs : Nat)) ∧ w' = wx) := fun wx er hc => at_any wx g base bs A c _ er hc
  have h8t : ∀ x ∈ bs.take (hA5 bs), x ≤ 255 := fun x hx => h8 x (List.mem_of_mem_take hx)
  have hlt : (bs.take (hA5 bs)).length = hA5 bs := by rw [List.length_take]; omega
  have h70 : hE7 bs = 0 → 0 < bs.length := fun h => by
    unfold hE7 takeE at h
    split at h
    · contradiction
    · split at h
      · cases h
      · omega
  have KS := Lib.hid (fun (h : hE7 bs = 0) wx => run_cuth' (P := Tryz.prog) (t := 22) (s := 1) Tryz.underlying22 (fun _ => by kernel_rfl) X bs.length d .i64 ((hA5 bs : Nat) : Int) (hA5 bs) rfl (by omega) (hX (h70 h)) wx)
  have hxk : ∀ wx, Kept (Rest fb g w) w wx → TabAt wx ∧ Row wx wx.heap.size X (hA5 bs) 1 (numF .u8 (bs.take (hA5 bs))) := fun wx hk => by
    refine ⟨fun i hi => (World.cell?_of_block (a := ⟨_, i, none⟩) (hk.block _ ⟨ht.lt, htg.1, htg.2⟩)).trans (ht i hi), ?_⟩
    refine row_num_take (n := bs.length) ?_ ha5
    intro h0
    obtain ⟨b, o, e, hb, hc⟩ := hx h0
    have hb2 := hXb h0 _ e
    refine ⟨b, o, e, by have := hk.size; omega, fun i j hi hj => ?_⟩
    exact (World.cell?_of_block (a := ⟨b, o + (i * 1 + j), none⟩) (hk.block b ⟨hb, hb2.1, hb2.2⟩)).trans (hc i j hi hj)
  have C5 : Hid (∀ wx, Kept (Rest fb g w) w wx → Calls Tryz.prog 106 #[.slice X (hA5 bs) d] wx (CutPost (bs.take (hA5 bs)) wx)) := fun wx hk => cut_any wx X (hA5 bs) d _ hlt (by omega) (by omega) h8t (hxk wx hk).1 (hxk wx hk).2
  have C6 : Hid (∀ wx er e2, Cur wx g base bs A c (hA5 bs) er → Calls Tryz.prog 130 #[.pointer (some ⟨g, 0, none⟩), .int .i64 e2] wx fun e w' => e = .returned (.tuple #[]) ∧ Cur w' g base bs A c (hA5 bs) (failE er e2) ∧ Kept (fun x => x ≠ g) wx w') := fun wx er e2 hc => fail_any wx g base bs A c _ er e2 hc
  have E8 : Hid ((hE7 bs ≠ 0 → hE8 bs = hE7 bs) ∧ (hE7 bs = 0 → hE8 bs = failE 0 (cutE (bs.take (hA5 bs))))) := ⟨fun h => if_pos h, fun h => (if_neg (by rw [h]; simp)).trans rfl⟩
  unfold CutPost at C5
  have H := Lib.hid h
  clear ht hx hX hXb h70 htg hlt h8t hxk hp h8 h
  generalize hA3 bs = a3 at *
  generalize hA4 bs = a4 at *
  generalize hA5 bs = a5 at *
  generalize hE5 bs = e5 at *
  generalize hE6 bs = e6 at *
  generalize hE7 bs = e7 at *
  generalize hE8 bs = e8 at *
  generalize hBody bs = body at *
  generalize takeO bs a4 e6 4 = trail at *
  generalize cutE (bs.take a5) = ce at *
  generalize cutO (bs.take a5) = co at *
  have d0 := H.out.ptr
  have d3 := H.out.blk.cell 3
  have d4 := H.out.blk.cell 4
  have f4 := H.out.blk.frozen 4
  simp only [List.getElem?_toArray, List.getElem?_cons_zero, List.getElem?_cons_succ] at d3 d4
  go_enter Tryz.func264, Tryz.ntmps264
  go_upto_region 0 with fail
  have F0 := H.out.drew
  go_region_held3 (fun wx => wx.cell? ⟨fb, 0, none⟩ = some (.pointer (some ⟨g, 0, none⟩)) ∧ wx.cell? ⟨fb, 3, none⟩ = some (.int .i64 p)) (first | exact ⟨d0, d3⟩ | exact k0 | exact k1) (first | (go_at_call 174; (with_reducible refine (C1.out _ F0.cur).mono ?_); rintro e w1 ⟨v, rfl, hown, hc1, hk1⟩; obtain ⟨va, vc, rfl⟩ := own_shape hown; have F1 := F0.on hc1 hk1; have k0 : w1.cell? ⟨fb, 0, none⟩ = some (.pointer (some ⟨g, 0, none⟩)) ∧ w1.cell? ⟨fb, 3, none⟩ = some (.int .i64 p) := ⟨F1.ptr, F1.blk.cell 3⟩; have q4 : w1.cell? ⟨fb, 4, none⟩ = some (.slice none 0 0) := F1.blk.cell 4; have qf : w1.frozen? ⟨fb, 4, none⟩ = false := F1.blk.frozen 4; have F2 := F1.setB (.slice va body.length vc); have k1 : (w1.setCell ⟨fb, 4, none⟩ (.slice va body.length vc)).cell? ⟨fb, 0, none⟩ = some (.pointer (some ⟨g, 0, none⟩)) ∧ (w1.setCell ⟨fb, 4, none⟩ (.slice va body.length vc)).cell? ⟨fb, 3, none⟩ = some (.int .i64 p) := ⟨F2.ptr, F2.blk.cell 3⟩))
  have K1 : Hid (Kept (Rest fb g w) w (w1.setCell ⟨fb, 4, none⟩ (.slice va body.length vc))) := kept_set (kept_on ((Kept.refl _ _).drew) hk1)
  have HO2 := Lib.hid (own_mono (set_own (p := ⟨fb, 4, none⟩) hown (own_blk hown F1.blk (by decide)) (.slice va body.length vc)) (show w.heap.size ≤ _ from Nat.le_refl _))
  have F2 := Lib.hid F2
  have hz1 := hk1.size
  have hzz : (w1.setCell ⟨fb, 4, none⟩ (.slice va body.length vc)).heap.size = w1.heap.size := by simp
  generalize w1.setCell ⟨fb, 4, none⟩ (.slice va body.length vc) = w2 at *
  clear k0 k1 q4 qf hown hc1 hk1 F1 F0 d0 d3 d4 f4 H C1
  have d0 := F2.out.ptr
  go_wp2_with fail
  refine (C2.out _ F2.out.cur).mono ?_
  rintro e w3 ⟨v3, rfl, hown3, hc3, hk3⟩
  obtain ⟨va3, vc3, rfl⟩ := own_shape hown3
  have F3 := Lib.hid (F2.out.on hc3 hk3)
  have K3 : Hid (Kept (Rest fb g w) w w3) := kept_on K1.out hk3
  have HO3 : Hid (w3.ownsRow w.heap.size 5 1 (.slice va body.length vc) body.length (numL .u8 body)) := own_kept HO2.out (fun x hx => hk3.block x ⟨(World.ownsRow.lt HO2.out x hx).2, fun e => own_blk HO2.out F2.out.cur.blk (by decide) (hx.trans (congrArg some e))⟩)
  clear hown3 hc3 hk3 F2 K1 HO2 d0 C2
  have d0 := F3.out.ptr
  go_wp2_with fail
  refine (C3.out _ _ F3.out.cur).mono ?_
  rintro e w4 ⟨rfl, rfl⟩
  by_cases he7 : e7 = 0
  · have hE := E8.out.2 he7
    have ks := KS.out he7
    subst he7
    clear KS
    go_wp2_with fail
    refine (C4.out _ _ F3.out.cur).mono ?_
    rintro e w5 ⟨rfl, rfl⟩
    go_wp2_with fail
    refine (C5.out _ K3.out).mono ?_
    rintro e w6 ⟨v6, rfl, hown6, hb6⟩
    obtain ⟨va6, vc6, rfl⟩ := own_shape hown6
    have F6 : Hid (Fr w6 fb g base bs A c a5 0 way n p (.slice va body.length vc)) := ⟨F3.out.blk.step hb6, F3.out.cur.step hb6, F3.out.lo⟩
    have K6 : Hid (Kept (Rest fb g w) w w6) := K3.out.trans (Kept.of_below hb6 (fun x hx => by have := hx.1; have := K3.out.size; omega))
    have HO6 : Hid (w6.ownsRow w.heap.size 5 1 (.slice va body.length vc) body.length (numL .u8 body)) := own_kept HO3.out (fun x hx => hb6.block x (World.ownsRow.lt HO3.out x hx).2)
    clear hown6 hb6 F3 K3 HO3 d0 C3 C4 C5
    have d0 := F6.out.ptr
    go_wp2_with fail
    refine (C6.out _ _ ce F6.out.cur).mono ?_
    rintro e w7 ⟨rfl, hc7, hk7⟩
    have F7 := Lib.hid (F6.out.fail hc7 hk7)
    have K7 : Hid (Kept (Rest fb g w) w w7) := kept_fail K6.out hk7
    have HO7 : Hid (w7.ownsRow w.heap.size 5 1 (.slice va body.length vc) body.length (numL .u8 body)) := own_kept HO6.out (fun x hx => hk7.block x (fun e => own_blk HO6.out F6.out.cur.blk (by decide) (hx.trans (congrArg some e))))
    have HE := Lib.hid hE
    clear hc7 hk7 F6 K6 HO6 d0 C6 hE
    go_wp2_with fail
    refine bodyPost_end (results_none rfl _ _ _) rfl ?_
    exact ⟨rfl, _, own_mono HO7.out hba, by rw [HE.out]; exact F7.out, K7.out⟩
  · have hE := E8.out.1 he7
    have g1 : (e7 != 0) = true := by simpa using he7
    have HE := Lib.hid hE
    clear hE he7
    go_wp2_with fail
    refine bodyPost_ret (results_none rfl _ _ _) rfl ?_
    exact ⟨rfl, _, own_mono HO3.out hba, by rw [HE.out]; exact F3.out, K3.out⟩
end Go.Proofs.YtmgjgkdbagbleaaGreatDoor.Block
namespace Go.Proofs.YtmgjgkdbagbleaaGreatDoor.Block
open Go.RowKit Go.Proofs.YtmgjgkdbagbleaaGreatDoor.Mem Go.Proofs.YtmgjgkdbagbleaaGreatDoor.Own Go.Proofs.YtmgjgkdbagbleaaGreatDoor.Canon
open Go.Proofs.YtmgjgkdbagbleaaGreatDoor.Nums Go.Proofs.YtmgjgkdbagbleaaGreatDoor.Crc
open Go.Proofs.YtmgjgkdbagbleaaGreatDoor.Huff (readToks tksL tksL_get tkF TRPost tread_any readToks_may MayTk)
open Go.Proofs.YtmgjgkdbagbleaaGreatDoor.Toks (Tk mayB)
theorem read_all {body : List Nat} {n : Nat} (he : (readToks body n).2 = 0) : ∀ t ∈ (readToks body n).1, (0 ≤ t.lit ∧ t.lit ≤ 255) ∧ mayB t.lit t.len t.dist = true := fun t ht => by
  have h := ((readToks_may body n).1 he).1 t ht
  exact ⟨h.2.1, h.1⟩
theorem sizeT_ge (ts : List Tk) : (ts.length : Int) ≤ Huff.sizeT ts := by
  induction ts with
  | nil => simp [Huff.sizeT]
  | cons t ts ih => simp only [Huff.sizeT, List.length_cons]; omega
theorem read_count {body : List Nat} {n : Nat} (he : (readToks body n).2 = 0) : (readToks body n).1.length ≤ n := by
  have h := ((readToks_may body n).1 he).2
  have := sizeT_ge (readToks body n).1
  omega
def BytesPost (base way n p : Nat) (body : List Nat) (w : World) (e : Ending) (w' : World) : Prop :=
  ∃ v, e = .returned (.tuple #[v, .int .i64 (byE way n p body)]) ∧ w'.ownsRow base 5 1 v (byO way n p body).length (numL .u8 (byO way n p body)) ∧ Below w.heap.size w w'
set_option maxHeartbeats 1000000 in
set_option maxRecDepth 100000 in
theorem bytes_any (w : World) (fb g base : Nat) (bs : List Nat) (A : Option Addr) (c at_ : Nat) (er : Int) (way n p : Nat) (va : Option Addr) (vc : Nat) (body : List Nat) (hn : n ≤ 32768) (hp : p ≤ 32768) (hbl : body.length ≤ 100000) (h8 : ∀ x ∈ body, x ≤ 255) (hba : base ≤ w.heap.size)
    (hown : w.ownsRow base 5 1 (.slice va body.length vc) body.length (numL .u8 body)) (h : Fr w fb g base bs A c at_ er way n p (.slice va body.length vc)) :
    Calls Tryz.prog 265 #[.pointer (some ⟨fb, 0, none⟩)] w (BytesPost base way n p body w) := by
  have d0 := h.ptr
  have d1 := h.blk.cell 1
  have d2 := h.blk.cell 2
  have d3 := h.blk.cell 3
  have d4 := h.blk.cell 4
  simp only [List.getElem?_toArray, List.getElem?_cons_zero, List.getElem?_cons_succ] at d1 d2 d3 d4
  unfold BytesPost
  by_cases hw : way = 0
  · subst hw
    by_cases hnp : n = p
    · subst hnp
      have hE : byE 0 n n body = 0 := by unfold byE; rw [if_pos rfl, if_neg (by simp)]
      have hO : byO 0 n n body = body := by unfold byO; rw [hE, if_neg (by simp), if_pos rfl]
      rw [hE, hO]
      have g1 : ((n : Int) != (n : Int)) = false := by simp
      have HO := Lib.hid hown
      clear h h8 hE hO hown
      generalize hlb : body.length = L at *
      clear hlb
      go_enter Tryz.func265, Tryz.ntmps265
      go_wp2_with fail
      go_quiet (fail)
      go_wp2_with fail
      go_ret2
      exact ⟨_, rfl, own_kept HO.out (fun x hx => rfl), below_drewN (Below.refl _ _) _⟩
    · have hE : byE 0 n p body = 2 := by unfold byE; rw [if_pos rfl, if_pos hnp]
      have hO : byO 0 n p body = [] := by unfold byO; rw [hE, if_pos (by simp)]
      rw [hE, hO]
      have g1 : ((n : Int) != (p : Int)) = true := by simp; omega
      clear h h8 hE hO hown hnp
      go_enter Tryz.func265, Tryz.ntmps265
      go_wp2_with fail
      go_quiet (fail)
      go_wp2_with fail
      go_ret2
      exact ⟨_, rfl, World.ownsRow_nil _ _ _ _, below_drewN (Below.refl _ _) _⟩
  · have g0 : ((way : Int) == 0) = false := by rw [Bool.eq_false_iff]; intro h; simp at h; omega
    have C1 : Hid (∀ wx, Below w.heap.size w wx → Calls Tryz.prog 294 #[.slice va body.length vc, .int .i64 n] wx (TRPost (readToks body n) wx)) := fun wx hb => tread_any wx va body.length vc body n (by omega) (by omega) rfl hbl h8 (own_none hown) ((own_row hown).below hb |>.mono hb.size)
    have hall := read_all (body := body) (n := n)
    have hcnt := read_count (body := body) (n := n)
    have hE := show byE way n p body = _ from if_neg hw
    have hO : byO way n p body = if byE way n p body ≠ 0 then [] else (Lz.play (readToks body n).1 n).1 := by unfold byO; rw [if_neg hw]
    unfold TRPost at C1
    generalize readToks body n = R at *
    obtain ⟨ts, e1⟩ := R
    simp only at hE hO C1 hall hcnt
    by_cases he1 : e1 = 0
    · subst he1
      rw [if_neg (by simp)] at hE
      have hcnt := hcnt rfl
      have hall := hall rfl
      have C2 : Hid (∀ wx A2 c2, Row wx wx.heap.size A2 ts.length 3 (Toks.tokF ts) → Calls Tryz.prog 295 #[.slice A2 ts.length c2, .int .i64 n] wx (Lz.PlayPost (Lz.play ts n) wx)) := fun wx A2 c2 hr => Lz.play_any wx A2 ts.length c2 ts n (by omega) rfl (by omega) hall hr
      unfold Lz.PlayPost at C2
      generalize Lz.play ts n = P at *
      obtain ⟨out, e2⟩ := P
      simp only at hE hO C2
      by_cases he2 : e2 = 0
      · subst he2
        rw [if_neg (by simp)] at hE
        by_cases hl : out.length < n
        · rw [if_pos hl] at hE
          have hO2 : byO way n p body = [] := by rw [hO, hE, if_pos (by simp)]
          rw [hE, hO2]
          have g5 : decide ((out.length : Int) < (n : Int)) = true := by simp; omega
          have g6 : decide (out.length < n) = true := by simp; omega
          clear hl
          have H := Lib.hid h
          have hL : body.length = body.length := rfl
          clear h8 hE hO hO2 hown hw hL h
          generalize hlb : body.length = L at *
          clear hlb d3
          go_enter Tryz.func265, Tryz.ntmps265
          go_upto_region 5 with fail
          go_region_held3 (fun wx => wx.cell? ⟨fb, 4, none⟩ = some (.slice va L vc) ∧ wx.cell? ⟨fb, 2, none⟩ = some (.int .i64 n)) (first | exact ⟨d4, d2⟩ | exact k0) (first | (go_at_call 294; (with_reducible refine (C1.out _ (by (repeat (first | (with_reducible exact Below.refl _ _) | (with_reducible assumption) | (with_reducible refine Below.drew ?_) | (with_reducible refine below_drewN ?_ _) | ((with_reducible refine bel_set ?_ ?_); (focus (first | (simp; done) | (simp; omega) | omega | (simp at *; omega)))) | (with_reducible refine bel_alloc0 ?_) | (with_reducible refine bel_step0 (by assumption) ?_) | ((with_reducible refine bel_alloc ?_ ?_); (focus (first | (simp; done) | (simp; omega) | omega | (simp at *; omega)))) | ((with_reducible refine bel_step (by assumption) ?_ ?_); (focus (first | (simp; done) | (simp; omega) | omega | (simp at *; omega)))))))).mono ?_); rintro e w2 ⟨v2, rfl, hown2, hb2⟩; obtain ⟨va2, vc2, rfl⟩ := own_shape hown2; have k0 : w2.cell? ⟨fb, 4, none⟩ = some (.slice va L vc) ∧ w2.cell? ⟨fb, 2, none⟩ = some (.int .i64 n) := ⟨(H.out.drew.blk.step hb2).cell 4, (H.out.drew.blk.step hb2).cell 2⟩))
          have F2 := Lib.hid (⟨H.out.drew.blk.step hb2, H.out.drew.cur.step hb2, H.out.lo⟩ : Fr w2 fb g base bs A c at_ er way n p (.slice va L vc))
          have HB2 : Hid (Below w.heap.size w w2) := (Below.refl _ _).drew.trans hb2
          clear hb2 k0 d0 d1 d2 d4 C1 H
          have d2 : w2.cell? ⟨fb, 2, none⟩ = some (.int .i64 n) := F2.out.blk.cell 2
          have hrow2 := own_toks hown2
          generalize ts.length = tl at *
          go_wp2_with fail
          refine (C2.out _ _ _ hrow2).mono ?_
          rintro e w3 ⟨v3, rfl, hown3, hb3⟩
          obtain ⟨va3, vc3, rfl⟩ := own_shape hown3
          have F3 := Lib.hid (⟨F2.out.blk.step hb3, F2.out.cur.step hb3, F2.out.lo⟩ : Fr w3 fb g base bs A c at_ er way n p (.slice va L vc))
          have HB3 : Hid (Below w.heap.size w w3) := HB2.out.trans (hb3.mono HB2.out.size)
          clear hb3 hrow2 hown2 C2 F2 d2
          have d2 : w3.cell? ⟨fb, 2, none⟩ = some (.int .i64 n) := F3.out.blk.cell 2
          generalize out.length = ol at *
          go_wp2_with fail
          go_ret2
          exact ⟨_, rfl, World.ownsRow_nil _ _ _ _, HB3.out⟩
        · rw [if_neg hl] at hE
          have hO2 : byO way n p body = out := by rw [hO, hE, if_neg (by simp)]
          rw [hE, hO2]
          have g5 : decide ((out.length : Int) < (n : Int)) = false := by simp; omega
          have g6 : decide (out.length < n) = false := by simp; omega
          clear hl
          have H := Lib.hid h
          have hL : body.length = body.length := rfl
          clear h8 hE hO hO2 hown hw hL h
          generalize hlb : body.length = L at *
          clear hlb d3
          go_enter Tryz.func265, Tryz.ntmps265
          go_upto_region 5 with fail
          go_region_held3 (fun wx => wx.cell? ⟨fb, 4, none⟩ = some (.slice va L vc) ∧ wx.cell? ⟨fb, 2, none⟩ = some (.int .i64 n)) (first | exact ⟨d4, d2⟩ | exact k0) (first | (go_at_call 294; (with_reducible refine (C1.out _ (by (repeat (first | (with_reducible exact Below.refl _ _) | (with_reducible assumption) | (with_reducible refine Below.drew ?_) | (with_reducible refine below_drewN ?_ _) | ((with_reducible refine bel_set ?_ ?_); (focus (first | (simp; done) | (simp; omega) | omega | (simp at *; omega)))) | (with_reducible refine bel_alloc0 ?_) | (with_reducible refine bel_step0 (by assumption) ?_) | ((with_reducible refine bel_alloc ?_ ?_); (focus (first | (simp; done) | (simp; omega) | omega | (simp at *; omega)))) | ((with_reducible refine bel_step (by assumption) ?_ ?_); (focus (first | (simp; done) | (simp; omega) | omega | (simp at *; omega)))))))).mono ?_); rintro e w2 ⟨v2, rfl, hown2, hb2⟩; obtain ⟨va2, vc2, rfl⟩ := own_shape hown2; have k0 : w2.cell? ⟨fb, 4, none⟩ = some (.slice va L vc) ∧ w2.cell? ⟨fb, 2, none⟩ = some (.int .i64 n) := ⟨(H.out.drew.blk.step hb2).cell 4, (H.out.drew.blk.step hb2).cell 2⟩))
          have F2 := Lib.hid (⟨H.out.drew.blk.step hb2, H.out.drew.cur.step hb2, H.out.lo⟩ : Fr w2 fb g base bs A c at_ er way n p (.slice va L vc))
          have HB2 : Hid (Below w.heap.size w w2) := (Below.refl _ _).drew.trans hb2
          clear hb2 k0 d0 d1 d2 d4 C1 H
          have d2 : w2.cell? ⟨fb, 2, none⟩ = some (.int .i64 n) := F2.out.blk.cell 2
          have hrow2 := own_toks hown2
          generalize ts.length = tl at *
          go_wp2_with fail
          refine (C2.out _ _ _ hrow2).mono ?_
          rintro e w3 ⟨v3, rfl, hown3, hb3⟩
          obtain ⟨va3, vc3, rfl⟩ := own_shape hown3
          have F3 := Lib.hid (⟨F2.out.blk.step hb3, F2.out.cur.step hb3, F2.out.lo⟩ : Fr w3 fb g base bs A c at_ er way n p (.slice va L vc))
          have HB3 : Hid (Below w.heap.size w w3) := HB2.out.trans (hb3.mono HB2.out.size)
          clear hb3 hrow2 hown2 C2 F2 d2
          have d2 : w3.cell? ⟨fb, 2, none⟩ = some (.int .i64 n) := F3.out.blk.cell 2
          have HO3 := Lib.hid (own_mono hown3 (show base ≤ _ by have := HB2.out.size; omega))
          clear hown3
          generalize hol : out.length = ol at *
          have HOL := Lib.hid hol
          clear hol
          go_wp2_with fail
          go_ret2
          exact ⟨_, rfl, by rw [HOL.out]; exact HO3.out, HB3.out⟩
      · rw [if_pos he2] at hE
        have hO2 : byO way n p body = [] := by rw [hO, hE, if_pos he2]
        rw [hE, hO2]
        have g5 : (e2 != 0) = true := by simpa using he2
        clear he2
        have H := Lib.hid h
        have hL : body.length = body.length := rfl
        clear h8 hE hO hO2 hown hw hL h
        generalize hlb : body.length = L at *
        clear hlb d3
        go_enter Tryz.func265, Tryz.ntmps265
        go_upto_region 5 with fail
        go_region_held3 (fun wx => wx.cell? ⟨fb, 4, none⟩ = some (.slice va L vc) ∧ wx.cell? ⟨fb, 2, none⟩ = some (.int .i64 n)) (first | exact ⟨d4, d2⟩ | exact k0) (first | (go_at_call 294; (with_reducible refine (C1.out _ (by (repeat (first | (with_reducible exact Below.refl _ _) | (with_reducible assumption) | (with_reducible refine Below.drew ?_) | (with_reducible refine below_drewN ?_ _) | ((with_reducible refine bel_set ?_ ?_); (focus (first | (simp; done) | (simp; omega) | omega | (simp at *; omega)))) | (with_reducible refine bel_alloc0 ?_) | (with_reducible refine bel_step0 (by assumption) ?_) | ((with_reducible refine bel_alloc ?_ ?_); (focus (first | (simp; done) | (simp; omega) | omega | (simp at *; omega)))) | ((with_reducible refine bel_step (by assumption) ?_ ?_); (focus (first | (simp; done) | (simp; omega) | omega | (simp at *; omega)))))))).mono ?_); rintro e w2 ⟨v2, rfl, hown2, hb2⟩; obtain ⟨va2, vc2, rfl⟩ := own_shape hown2; have k0 : w2.cell? ⟨fb, 4, none⟩ = some (.slice va L vc) ∧ w2.cell? ⟨fb, 2, none⟩ = some (.int .i64 n) := ⟨(H.out.drew.blk.step hb2).cell 4, (H.out.drew.blk.step hb2).cell 2⟩))
        have F2 := Lib.hid (⟨H.out.drew.blk.step hb2, H.out.drew.cur.step hb2, H.out.lo⟩ : Fr w2 fb g base bs A c at_ er way n p (.slice va L vc))
        have HB2 : Hid (Below w.heap.size w w2) := (Below.refl _ _).drew.trans hb2
        clear hb2 k0 d0 d1 d2 d4 C1 H
        have d2 : w2.cell? ⟨fb, 2, none⟩ = some (.int .i64 n) := F2.out.blk.cell 2
        have hrow2 := own_toks hown2
        generalize ts.length = tl at *
        go_wp2_with fail
        refine (C2.out _ _ _ hrow2).mono ?_
        rintro e w3 ⟨v3, rfl, hown3, hb3⟩
        obtain ⟨va3, vc3, rfl⟩ := own_shape hown3
        have F3 := Lib.hid (⟨F2.out.blk.step hb3, F2.out.cur.step hb3, F2.out.lo⟩ : Fr w3 fb g base bs A c at_ er way n p (.slice va L vc))
        have HB3 : Hid (Below w.heap.size w w3) := HB2.out.trans (hb3.mono HB2.out.size)
        clear hb3 hrow2 hown2 C2 F2 d2
        clear hown3
        generalize out.length = ol at *
        go_wp2_with fail
        go_ret2
        exact ⟨_, rfl, World.ownsRow_nil _ _ _ _, HB3.out⟩
    · rw [if_pos he1] at hE
      have hO2 : byO way n p body = [] := by rw [hO, hE, if_pos he1]
      rw [hE, hO2]
      have g1 : (e1 != 0) = true := by simpa using he1
      clear he1 hcnt hall
      have H := Lib.hid h
      have hL : body.length = body.length := rfl
      clear h8 hE hO hO2 hown hw hL h
      generalize hlb : body.length = L at *
      clear hlb d3
      go_enter Tryz.func265, Tryz.ntmps265
      go_upto_region 5 with fail
      go_region_held3 (fun wx => wx.cell? ⟨fb, 4, none⟩ = some (.slice va L vc) ∧ wx.cell? ⟨fb, 2, none⟩ = some (.int .i64 n)) (first | exact ⟨d4, d2⟩ | exact k0) (first | (go_at_call 294; (with_reducible refine (C1.out _ (by (repeat (first | (with_reducible exact Below.refl _ _) | (with_reducible assumption) | (with_reducible refine Below.drew ?_) | (with_reducible refine below_drewN ?_ _) | ((with_reducible refine bel_set ?_ ?_); (focus (first | (simp; done) | (simp; omega) | omega | (simp at *; omega)))) | (with_reducible refine bel_alloc0 ?_) | (with_reducible refine bel_step0 (by assumption) ?_) | ((with_reducible refine bel_alloc ?_ ?_); (focus (first | (simp; done) | (simp; omega) | omega | (simp at *; omega)))) | ((with_reducible refine bel_step (by assumption) ?_ ?_); (focus (first | (simp; done) | (simp; omega) | omega | (simp at *; omega)))))))).mono ?_); rintro e w2 ⟨v2, rfl, hown2, hb2⟩; obtain ⟨va2, vc2, rfl⟩ := own_shape hown2; have k0 : w2.cell? ⟨fb, 4, none⟩ = some (.slice va L vc) ∧ w2.cell? ⟨fb, 2, none⟩ = some (.int .i64 n) := ⟨(H.out.drew.blk.step hb2).cell 4, (H.out.drew.blk.step hb2).cell 2⟩))
      have F2 := Lib.hid (⟨H.out.drew.blk.step hb2, H.out.drew.cur.step hb2, H.out.lo⟩ : Fr w2 fb g base bs A c at_ er way n p (.slice va L vc))
      have HB2 : Hid (Below w.heap.size w w2) := (Below.refl _ _).drew.trans hb2
      clear hb2 k0 d0 d1 d2 d4 C1 H
      clear hown2
      go_wp2_with fail
      go_ret2
      exact ⟨_, rfl, World.ownsRow_nil _ _ _ _, HB2.out⟩
end Go.Proofs.YtmgjgkdbagbleaaGreatDoor.Block
namespace Go.Proofs.YtmgjgkdbagbleaaGreatDoor.Block
open Go.RowKit Go.Proofs.YtmgjgkdbagbleaaGreatDoor.Mem Go.Proofs.YtmgjgkdbagbleaaGreatDoor.Own Go.Proofs.YtmgjgkdbagbleaaGreatDoor.Canon
open Go.Proofs.YtmgjgkdbagbleaaGreatDoor.Nums Go.Proofs.YtmgjgkdbagbleaaGreatDoor.Crc
open Go.Proofs.YtmgjgkdbagbleaaGreatDoor.Toks (Tk mayB)
theorem playT_len (most : Int) : ∀ (ts : List Tk) (out : List Nat), (out.length : Int) ≤ most → ((Lz.playT most out ts).1.length : Int) ≤ most
  | [], out, h => h
  | t :: ts, out, h => by
    rw [Lz.playT]
    split
    · rename_i he
      refine playT_len most ts _ ?_
      unfold Lz.playE at he
      split at he
      · split at he
        · omega
        · split at he
          · omega
          · split
            · rw [List.length_append]; simp; omega
            · rw [Lz.copyT_length]; omega
      · omega
    · simp; omega
theorem play_len (ts : List Tk) (n : Nat) : (Lz.play ts n).1.length ≤ n := by
  unfold Lz.play
  split
  · simp
  · have := playT_len n ts [] (by simp)
    omega
theorem body_le (bs : List Nat) : (hBody bs).length ≤ bs.length := by
  unfold hBody takeO
  split
  · simp
  · split
    · simp
    · simp; omega
theorem opO_le {bs : List Nat} (h8 : ∀ x ∈ bs, x ≤ 255) : (opO bs).length ≤ max 32768 bs.length := by
  have h1 := body_le bs
  have h2 := play_len (Huff.readToks (hBody bs) (hN bs)).1 (hN bs)
  have h3 := hN_le h8
  unfold opO byO
  split
  · simp
  · split
    · simp
    · split <;> omega
def OpenPost (bs : List Nat) (w : World) (e : Ending) (w' : World) : Prop :=
  ∃ v1 v2, e = .returned (.tuple #[v1, v2, .int .i64 (opE bs)]) ∧ Below w.heap.size w w' ∧ (opE bs = 0 → hE8 bs = 0 ∧ ∃ fb g A c bv va vc, v1 = .pointer (some ⟨fb, 0, none⟩) ∧ v2 = .slice va (opO bs).length vc ∧ Fr w' fb g w.heap.size bs A c (hA5 bs) 0 (hWay bs) (hN bs) (hP bs) bv ∧ w'.ownsRow w.heap.size 5 1 v2 (opO bs).length (numL .u8 (opO bs)))
set_option maxHeartbeats 1000000 in
set_option maxRecDepth 100000 in
theorem open_any (w : World) (bs : List Nat) (X : Option Addr) (d : Nat) (hle : bs.length ≤ 100000) (hd : bs.length ≤ d) (hX : X = none → bs.length = 0 ∧ d = 0) (hXo : 0 < bs.length → ∀ a, X = some a → a.add 0 = a ∧ a.block < w.heap.size) (h8 : ∀ x ∈ bs, x ≤ 255) (ht : TabAt w) (hx : Row w w.heap.size X bs.length 1 (numF .u8 bs)) :
    Calls Tryz.prog 224 #[.slice X bs.length d] w (OpenPost bs w) := by
  have C1 := Lib.hid (Nums.new_any w X bs.length d bs rfl hle hX hx)
  have C2 : Hid (∀ wx fb g B e (h : Fr wx fb g w.heap.size bs B e 0 0 0 0 0 (.slice none 0 0)), Calls Tryz.prog 263 #[.pointer (some ⟨fb, 0, none⟩)] wx fun e' w' => e' = .returned (.tuple #[]) ∧ Fr w' fb g w.heap.size bs B e (hA3 bs) (hE5 bs) (hWay bs) (hN bs) (hP bs) (.slice none 0 0) ∧ Kept (Rest fb g wx) wx w') := fun wx fb g B e h => head_any wx fb g w.heap.size bs B e _ hle h8 h
  have C3 : Hid (∀ wx fb g B e (hb : Below w.heap.size w wx) (h : Fr wx fb g w.heap.size bs B e (hA3 bs) (hE5 bs) (hWay bs) (hN bs) (hP bs) (.slice none 0 0)), Calls Tryz.prog 264 #[.pointer (some ⟨fb, 0, none⟩), .slice X bs.length d] wx fun e' w' => e' = .returned (.tuple #[]) ∧ ∃ v, w'.ownsRow w.heap.size 5 1 v (hBody bs).length (numL .u8 (hBody bs)) ∧ Fr w' fb g w.heap.size bs B e (hA5 bs) (hE8 bs) (hWay bs) (hN bs) (hP bs) v ∧ Kept (Rest fb g wx) wx w') := fun wx fb g B e hb h =>
    Block.rest_any wx fb g w.heap.size bs B e _ _ _ X d hle hd h8 rfl (ht.below hb ht.lt) ((hx.below hb).mono hb.size) (fun h0 a ha => (hXo h0 a ha).1) (fun h0 a ha => by have := (hXo h0 a ha).2; have := h.cur.lo; have := h.lo; omega) (by have := ht.lt; have := h.cur.lo; have := h.lo; omega) hb.size h
  have C4 : Hid (∀ wx g B e a er (h : Cur wx g w.heap.size bs B e a er), Calls Tryz.prog 131 #[.pointer (some ⟨g, 0, none⟩)] wx fun e' w' => e' = .returned (.int .i64 er) ∧ w' = wx) := fun wx g B e a er h => err_any wx g w.heap.size bs B e a er h
  have hbl := body_le bs
  have hb8 : ∀ x ∈ hBody bs, x ≤ 255 := fun x hx => h8 x (takeO_mem hx)
  have C5 : Hid (∀ wx fb g B e a er va vc (hb : w.heap.size ≤ wx.heap.size) (ho : wx.ownsRow w.heap.size 5 1 (.slice va (hBody bs).length vc) (hBody bs).length (numL .u8 (hBody bs))) (h : Fr wx fb g w.heap.size bs B e a er (hWay bs) (hN bs) (hP bs) (.slice va (hBody bs).length vc)), Calls Tryz.prog 265 #[.pointer (some ⟨fb, 0, none⟩)] wx (BytesPost w.heap.size (hWay bs) (hN bs) (hP bs) (hBody bs) wx)) := fun wx fb g B e a er va vc hb ho h =>
    bytes_any wx fb g w.heap.size bs B e a er _ _ _ va vc _ (hN_le h8) (hP_le h8) (by omega) hb8 hb ho h
  unfold BytesPost at C5
  have hoE : (hE8 bs ≠ 0 → opE bs = hE8 bs) ∧ (hE8 bs = 0 → opE bs = byE (hWay bs) (hN bs) (hP bs) (hBody bs)) := ⟨fun h => if_pos h, fun h => if_neg (by rw [h]; simp)⟩
  have hoO : opE bs = 0 → opO bs = byO (hWay bs) (hN bs) (hP bs) (hBody bs) := fun h => if_neg (by rw [h]; simp)
  have HOE := Lib.hid hoE
  have HOO := Lib.hid hoO
  clear ht hx hX hXo h8 hb8 hoE hoO
  unfold OpenPost
  go_enter Tryz.func224, Tryz.ntmps224
  go_wp2_with fail
  refine C1.out.mono ?_
  rintro e w1 ⟨g, B, dd, rfl, hc1, hb1⟩
  have hz1 := hb1.size
  have hcl := hc1.blk.lt
  have HF : Hid (Fr (w1.alloc (.cells #[.pointer (some ⟨g, 0, none⟩), .int .i64 0, .int .i64 0, .int .i64 0, .slice none 0 0] 262)) w1.heap.size g w.heap.size bs B dd 0 0 0 0 0 (.slice none 0 0)) :=
    ⟨Blk.made _ _ _, hc1.step (bel_alloc0 (Below.refl _ _)), hz1⟩
  have HB : Hid (Below w.heap.size w (w1.alloc (.cells #[.pointer (some ⟨g, 0, none⟩), .int .i64 0, .int .i64 0, .int .i64 0, .slice none 0 0] 262))) := bel_alloc hz1 hb1
  have hg : w.heap.size ≤ g := hc1.lo
  go_upto_region 2 with fail
  generalize w1.alloc (.cells #[.pointer (some ⟨g, 0, none⟩), .int .i64 0, .int .i64 0, .int .i64 0, .slice none 0 0] 262) = w2 at *
  generalize w1.heap.size = fb at *
  clear hc1 hb1 hcl C1
  go_wp2_with fail
  refine (C2.out _ _ _ _ _ HF.out).mono ?_
  rintro e w3 ⟨rfl, hf3, hk3⟩
  have HB3 : Hid (Below w.heap.size w w3) := HB.out.trans (hk3.below (fun x hx => ⟨by have := HB.out.size; omega, by omega, by omega⟩))
  have F3 := Lib.hid hf3
  clear hf3 hk3 HF HB C2
  go_wp2_with fail
  refine (C3.out _ _ _ _ _ HB3.out F3.out).mono ?_
  rintro e w4 ⟨rfl, v4, hown4, hf4, hk4⟩
  obtain ⟨va4, vc4, rfl⟩ := own_shape hown4
  have HB4 : Hid (Below w.heap.size w w4) := HB3.out.trans (hk4.below (fun x hx => ⟨by have := HB3.out.size; omega, by omega, by omega⟩))
  have F4 := Lib.hid hf4
  have HO4 := Lib.hid hown4
  have d0 := hf4.ptr
  clear hf4 hk4 hown4 F3 HB3 C3
  go_wp2_with fail
  refine (C4.out _ _ _ _ _ _ F4.out.cur).mono ?_
  rintro e w5 ⟨rfl, rfl⟩
  by_cases he8 : hE8 bs = 0
  · have hE := HOE.out.2 he8
    have F5 : Hid (Fr w5 fb g w.heap.size bs B dd (hA5 bs) 0 (hWay bs) (hN bs) (hP bs) (.slice va4 (hBody bs).length vc4)) := by rw [← he8]; exact F4.out
    rw [he8]
    have HE8 := Lib.hid he8
    have HE := Lib.hid hE
    clear he8 hE F4
    go_wp2_with fail
    refine (C5.out _ _ _ _ _ _ _ _ _ HB4.out.size HO4.out F5.out).mono ?_
    rintro e w6 ⟨v6, rfl, hown6, hb6⟩
    obtain ⟨va6, vc6, rfl⟩ := own_shape hown6
    have HB6 : Hid (Below w.heap.size w w6) := HB4.out.trans (hb6.mono HB4.out.size)
    have F6 : Hid (Fr w6 fb g w.heap.size bs B dd (hA5 bs) 0 (hWay bs) (hN bs) (hP bs) (.slice va4 (hBody bs).length vc4)) := ⟨F5.out.blk.step hb6, F5.out.cur.step hb6, F5.out.lo⟩
    have HO6 := Lib.hid hown6
    clear hown6 hb6 F5 HB4 HO4 d0 C4 C5
    go_wp2_with fail
    go_ret3
    refine ⟨_, _, by rw [HE.out]; rfl, HB6.out, fun h0 => ⟨HE8.out, fb, g, B, dd, _, va6, vc6, rfl, ?_, F6.out, ?_⟩⟩
    · rw [HOO.out h0]; rfl
    · rw [HOO.out h0]; exact HO6.out
  · have hE := HOE.out.1 he8
    have g1 : (hE8 bs != 0) = true := by simpa using he8
    have HE := Lib.hid hE
    have HN8 := Lib.hid he8
    clear he8 hE
    go_wp2_with fail
    go_ret3
    exact ⟨_, _, by rw [HE.out]; rfl, HB4.out, fun h0 => absurd (HE.out.symm.trans h0) HN8.out⟩
def ReadPost (bs : List Nat) (w : World) (e : Ending) (w' : World) : Prop :=
  ∃ v, e = .returned (.tuple #[v, .int .i64 (opA bs), .int .i64 (opE bs)]) ∧ w'.ownsRow w.heap.size 5 1 v (opO bs).length (numL .u8 (opO bs)) ∧ Below w.heap.size w w'
set_option maxHeartbeats 1000000 in
set_option maxRecDepth 100000 in
theorem read_any (w : World) (bs : List Nat) (X : Option Addr) (n d : Nat) (hn : bs.length = n) (hle : n ≤ 100000) (hd : n ≤ d) (hX : X = none → n = 0 ∧ d = 0) (hXo : 0 < bs.length → ∀ a, X = some a → a.add 0 = a ∧ a.block < w.heap.size) (h8 : ∀ x ∈ bs, x ≤ 255) (ht : TabAt w) (hx : Row w w.heap.size X n 1 (numF .u8 bs)) :
    Calls Tryz.prog 155 #[.slice X n d] w (ReadPost bs w) := by
  subst hn
  have C1 := Lib.hid (open_any w bs X d hle hd hX hXo h8 ht hx)
  unfold OpenPost at C1
  have hol := opO_le h8
  unfold ReadPost
  by_cases he : opE bs = 0
  · rw [he] at C1 ⊢
    have hA : opA bs = hA5 bs := if_neg (by rw [he]; simp)
    rw [hA]
    clear ht hx hX hXo h8 hA he hd
    generalize opO bs = out at *
    generalize hA5 bs = a5 at *
    go_enter Tryz.func155, Tryz.ntmps155
    go_wp2_with fail
    refine C1.out.mono ?_
    rintro e w1 ⟨v1, v2, rfl, hb1, hok⟩
    obtain ⟨_, fb, g, B, dd, bv, va, vc, rfl, rfl, hf, hown⟩ := hok (by first | trivial | rfl)
    have hwf := own_none hown
    have hrow := own_row hown
    have D1 : Hid (∀ wx, Below w1.heap.size w1 wx → Calls Tryz.prog 127 #[.slice va out.length vc] wx fun e' w' => ∃ v, e' = .returned v ∧ w'.ownsRow wx.heap.size 5 1 v out.length (numL .u8 out) ∧ Below wx.heap.size wx w') := fun wx hb => clone_u8 wx va _ vc _ rfl (by omega) hwf ((hrow.below hb).mono hb.size)
    have D2 : Hid (∀ wx, Below w1.heap.size w1 wx → Calls Tryz.prog 175 #[.pointer (some ⟨g, 0, none⟩)] wx fun e' w' => e' = .returned (.int .i64 (a5 : Nat)) ∧ w' = wx) := fun wx hb => at_any wx g w.heap.size bs B dd _ 0 (hf.cur.step hb)
    have d0 : w1.cell? ⟨fb, 0, none⟩ = some (.pointer (some ⟨g, 0, none⟩)) := hf.ptr
    have KP : Hid (∀ wx, Below w1.heap.size w1 wx → wx.cell? ⟨fb, 0, none⟩ = some (.pointer (some ⟨g, 0, none⟩))) := fun wx hb => (hb.cell (p := ⟨fb, 0, none⟩) hf.blk.lt).trans hf.ptr
    have HB1 := Lib.hid hb1
    clear hb1 hf hown hwf hrow C1 hok
    generalize hlo : out.length = ol at *
    have HLO := Lib.hid hlo
    clear hlo
    go_upto_region 4 with fail
    have b0 : Below w1.heap.size w1 w1.drew := (Below.refl _ _).drew
    go_region_held3 (fun wx => wx.cell? ⟨fb, 0, none⟩ = some (.pointer (some ⟨g, 0, none⟩))) (first | exact d0 | exact KP.out _ (by assumption)) (first | (go_at_call 127; (with_reducible refine (D1.out _ (by assumption)).mono ?_); rintro e' w' ⟨v, rfl, hown, hb⟩; have bN : Below w1.heap.size w1 w' := bel_step (by assumption) (Below.size (by assumption)) (by assumption)) | (go_at_call 175; (with_reducible refine (D2.out _ (by assumption)).mono ?_); rintro e' w' ⟨rfl, rfl⟩))
    have hz := HB1.out.size
    have HB2 : Hid (Below w.heap.size w w') := HB1.out.trans (bN.mono hz)
    have HO2 : Hid (w'.ownsRow w.heap.size 5 1 v ol (numL .u8 out)) := own_mono hown (show w.heap.size ≤ w1.heap.size from hz)
    obtain ⟨va5, vc5, rfl⟩ := own_shape HO2.out
    clear hown hb bN b0 D1 D2 KP HB1 d0
    go_wp2_with fail
    go_ret3
    exact ⟨_, rfl, by rw [HLO.out]; exact HO2.out, HB2.out⟩
  · have hO : opO bs = [] := if_pos he
    have hA : opA bs = 0 := if_pos he
    rw [hO, hA]
    have g1 : (opE bs != 0) = true := by simpa using he
    generalize opE bs = er at *
    clear ht hx hX hXo h8 hO hA hol hd he
    go_enter Tryz.func155, Tryz.ntmps155
    go_wp2_with fail
    refine C1.out.mono ?_
    rintro e w1 ⟨v1, v2, rfl, hb1, hok⟩
    clear hok C1
    go_wp2_with fail
    go_ret3
    exact ⟨_, rfl, World.ownsRow_nil _ _ _ _, hb1⟩
end Go.Proofs.YtmgjgkdbagbleaaGreatDoor.Block

/-
  The walks of the reference's R: Reader, Left, Skip, Peek, Pad.
  The walks of bits' Reader.Get and of the reference's R.Get.
-/
import Derived.Test.YtidclmmnfienlaaGreatDoorRefW
import Derived.Test.YtidclmmnfienlaaGreatDoorHuffGetB

namespace Go.Proofs.YtidclmmnfienlaaGreatDoor.Huff
open Go.RowKit Go.Proofs.YtidclmmnfienlaaGreatDoor.Mem Go.Proofs.YtidclmmnfienlaaGreatDoor.Canon Go.Proofs.YtidclmmnfienlaaGreatDoor.Own

/-- The reference's reader of the bits bs, at a place. -/
def RRd (w : World) (g hi : Nat) (bs : List Bool) (at_ : Nat) : Prop :=
  ∃ (A : Option Addr) (c : Nat), Blk w g 167 #[.slice A bs.length c, .int .i64 at_] ∧ RowIn w (g + 1) hi A bs.length 1 (numF .u8 (b01 bs)) ∧ at_ ≤ bs.length ∧ bs.length ≤ 800000
theorem RRd.keep {w w' : World} {g hi at_ : Nat} {bs : List Bool} (h : RRd w g hi bs at_) (hk : ∀ b, g ≤ b → (b < hi ∨ b = g) → w'.heap[b]? = w.heap[b]?) : RRd w' g hi bs at_ := by
  obtain ⟨A, c, h1, h2, h3⟩ := h
  exact ⟨A, c, (hk g (Nat.le_refl _) (.inr rfl)).trans h1, h2.keep (fun p ha hb => World.cell?_of_block (hk p.block (by omega) (.inl hb))), h3⟩
theorem RRd.drewN {w : World} {g hi at_ : Nat} {bs : List Bool} (h : RRd w g hi bs at_) (q : Nat) : RRd (w.drewN q) g hi bs at_ := h
theorem RRd.moved {w : World} {g hi at_ k : Nat} {bs : List Bool} (h : RRd w g hi bs at_) (hk : at_ + k ≤ bs.length) : RRd (w.setCell ⟨g, 1, none⟩ (.int .i64 ((at_ : Int) + (k : Int)))) g hi bs (at_ + k) := by
  obtain ⟨A, c, h1, h2, h3, h4⟩ := h
  refine ⟨A, c, ?_, h2.keep (fun p ha _ => World.cell?_of_block (Below.heap_setCell w _ _ _ (show p.block ≠ g by omega))), hk, h4⟩
  have h := h1.set 1 (.int .i64 ((at_ : Int) + (k : Int)))
  simpa using h
theorem RRd.cells {w : World} {g hi at_ : Nat} {bs : List Bool} (h : RRd w g hi bs at_) : ∃ A c, w.cell? ⟨g, 0, none⟩ = some (.slice A bs.length c) ∧ w.cell? ⟨g, 1, none⟩ = some (.int .i64 at_) ∧ w.frozen? ⟨g, 1, none⟩ = false ∧ RowIn w (g + 1) hi A bs.length 1 (numF .u8 (b01 bs)) ∧ at_ ≤ bs.length ∧ bs.length ≤ 800000 := by
  obtain ⟨A, c, h1, h2, h3, h4⟩ := h
  exact ⟨A, c, h1.cell 0, h1.cell 1, h1.frozen 1, h2, h3, h4⟩

set_option maxRecDepth 100000 in
theorem rleft_any (w : World) (g hi : Nat) (bs : List Bool) (at_ : Nat) (hR : RRd w g hi bs at_) :
    Calls Tryz.prog 117 #[.pointer (some ⟨g, 0, none⟩)] w fun e w' => e = .returned (.int .i64 ((bs.length - at_ : Nat) : Int)) ∧ ∃ q, w' = w.drewN q := by
  obtain ⟨A, c, c0, c1, _, _, h3, h4⟩ := hR.cells
  generalize bs.length = z at *
  have s1 : IntKind.i64.wrap ((z : Int) - (at_ : Int)) = ((z - at_ : Nat) : Int) := by rw [IntWalk.i64_in _ (by omega)]; omega
  clear hR
  go_enter Tryz.func117, Tryz.ntmps117
  go_wp2_with fail
  go_quiet (fail)
  go_wp2_with fail
  go_ret
  exact ⟨rfl, _, rfl⟩

set_option maxHeartbeats 1000000 in
set_option maxRecDepth 100000 in
theorem rpeek_any (w : World) (g hi : Nat) (bs : List Bool) (at_ m : Nat) (hm : m ≤ 64) (hR : RRd w g hi bs at_) :
    Calls Tryz.prog 116 #[.pointer (some ⟨g, 0, none⟩), .int .i64 (m : Nat)] w fun e w' =>
      e = .returned (.tuple #[.int .u64 (accB bs at_ m : Nat), .int .i64 ((min m (bs.length - at_) : Nat) : Int)]) ∧ ∃ q, w' = w.drewN q := by
  have HR := Lib.hid hR
  clear hR
  go_enter Tryz.func116, Tryz.ntmps116
  go_wp2_with fail
  go_loopw [6, 7, 8] (fun u v i wr => ∃ k x th : Nat, k ≤ m ∧ i = .int .i64 k ∧ u = .int .u64 x ∧ v = .int .i64 th ∧ Hid (x = accB bs at_ k) ∧ Hid (th = min k (bs.length - at_)) ∧ Hid (∃ q, wr = w.drewN q)) (fun _ _ i _ => m - (intOf i).toNat)
  case atStart => exact ⟨0, 0, 0, by omega, rfl, rfl, rfl, rfl, by show 0 = _; omega, ⟨0, rfl⟩⟩
  case round =>
    obtain ⟨k, x, th, hk, rfl, rfl, rfl, hx, hth, hdr⟩ := hrel
    by_cases hlt : k < m
    · have hR1 : RRd wr g hi bs at_ := by obtain ⟨q, hq⟩ := hdr.out; rw [hq]; exact HR.out
      have C := Lib.hid (rleft_any wr g hi bs at_ hR1)
      have HR1 := Lib.hid hR1
      have hxl := accB_lt bs at_ k
      rw [← hx.out] at hxl
      have hx63 : x < 9223372036854775808 := Nat.lt_of_lt_of_le hxl (by have : 2 ^ k ≤ 2 ^ 63 := Nat.pow_le_pow_right (by omega) (by omega); omega)
      have hstep : accB bs at_ (k + 1) = 2 * x + bit bs (at_ + k) := by rw [accB, ← hx.out]
      clear hR1 hxl hx
      by_cases hin : at_ + k < bs.length
      · have x1 : (k : Int) < ((bs.length - at_ : Nat) : Int) := by omega
        have hbl := bit_le bs (at_ + k)
        have hth2 : th + 1 = min (k + 1) (bs.length - at_) := by have := hth.out; omega
        have htb : th ≤ 64 := by have := hth.out; omega
        have HT := Lib.hid hth2
        have HS := Lib.hid hstep
        clear hth hth2 hstep
        go_wp2_with fail
        refine C.out.mono ?_
        rintro e w2 ⟨rfl, q2, hq2⟩
        have hR2 : RRd w2 g hi bs at_ := by rw [hq2]; exact HR1.out.drewN q2
        have HD : Hid (∃ q, w2 = w.drewN q) := by
          obtain ⟨q, rfl⟩ := hdr.out
          exact ⟨_, by rw [hq2, World.drewN_drewN]⟩
        obtain ⟨A, c, c0, c1, _, hrow, h3, h4⟩ := hR2.cells
        obtain ⟨b, off, y, rfl, _, hy, d0⟩ := num_cell hrow.row (b01_length bs) hin
        have hyb : bit bs (at_ + k) = y := by rw [← b01_get, List.getD_eq_getElem?_getD, hy]; rfl
        rw [hyb] at hbl HS
        have x2 : (0 : Int) ≤ (at_ : Int) + (k : Int) := by omega
        have x3 : (at_ : Int) + (k : Int) < ((bs.length : Nat) : Int) := by omega
        generalize hz : bs.length = z at *
        have HZ := Lib.hid hz
        clear hz hq2 hR2 hrow hy hyb C
        go_wp2_with fail
        go_quiet (fail)
        go_wp2_with fail
        go_roundw
        case measure => go_light; simp [intOf]; omega
        case rel =>
          go_light
          refine ⟨k + 1, 2 * x + y, th + 1, by omega, by go_num, by go_num, by go_num, HS.out.symm, ?_, ?_⟩
          · rw [HZ.out]; exact HT.out
          · obtain ⟨q, rfl⟩ := HD.out
            exact ⟨_, World.drewN_drewN _ _ _⟩
      · have x1 : ¬ (k : Int) < ((bs.length - at_ : Nat) : Int) := by omega
        rw [bit_out (by omega), Nat.add_zero] at hstep
        have hth2 : th = min (k + 1) (bs.length - at_) := by have := hth.out; omega
        have HT := Lib.hid hth2
        have HS := Lib.hid hstep
        clear hth hth2 hstep
        go_wp2_with fail
        refine C.out.mono ?_
        rintro e w2 ⟨rfl, q2, hq2⟩
        have HD : Hid (∃ q, w2 = w.drewN q) := by
          obtain ⟨q, rfl⟩ := hdr.out
          exact ⟨_, by rw [hq2, World.drewN_drewN]⟩
        clear hq2 C
        go_wp2_with fail
        go_roundw
        case measure => go_light; simp [intOf]; omega
        case rel =>
          go_light
          exact ⟨k + 1, 2 * x, th, by omega, by go_num, by go_num, rfl, HS.out.symm, HT.out, HD.out⟩
    · obtain rfl : k = m := by omega
      go_wp2_with fail
      go_ret2
      exact ⟨by rw [← hx.out, ← hth.out]; rfl, hdr.out⟩
end Go.Proofs.YtidclmmnfienlaaGreatDoor.Huff

namespace Go.Proofs.YtidclmmnfienlaaGreatDoor.Huff
open Go.RowKit Go.Proofs.YtidclmmnfienlaaGreatDoor.Mem Go.Proofs.YtidclmmnfienlaaGreatDoor.Canon Go.Proofs.YtidclmmnfienlaaGreatDoor.Own

/-- The number that is got, the error, the place behind it. -/
def gotV (bs : List Bool) (at_ m : Nat) : Nat := if at_ + m ≤ bs.length then accB bs at_ m else 0
def gotE (bs : List Bool) (at_ m : Nat) : Int := if at_ + m ≤ bs.length then 0 else 1
def gotA (bs : List Bool) (at_ m : Nat) : Nat := if at_ + m ≤ bs.length then at_ + m else at_

set_option maxRecDepth 100000 in
theorem bget_any (w : World) (lo g : Nat) (bs : List Bool) (at_ m : Nat) (hm : m ≤ 64) (hR : Rd w lo g bs at_) :
    Calls Tryz.prog 174 #[.pointer (some ⟨g, 0, none⟩), .int .i64 (m : Nat)] w fun e w' =>
      e = .returned (.tuple #[.int .u64 (gotV bs at_ m : Nat), .int .i64 (gotE bs at_ m)]) ∧ Rd w' lo g bs (gotA bs at_ m) ∧ Kept (fun x => x ≠ g) w w' := by
  have C := Lib.hid (left_any w lo g bs at_ hR)
  have HR := Lib.hid hR
  have hat : at_ ≤ bs.length ∧ bs.length ≤ 800000 := by
    obtain ⟨A, n, c, ls, h1, h2, h3, h4, h5, h6, h7⟩ := hR
    rw [h5, rbits_length, h3]; omega
  obtain ⟨hat1, hat2⟩ := hat
  have c2 := hR.cellAt
  have f2 : w.frozen? ⟨g, 2, none⟩ = false := by
    obtain ⟨A, n, c, ls, h1, _⟩ := hR
    exact h1.frozen 2
  unfold gotV gotE gotA
  by_cases hlt : at_ + m ≤ bs.length
  · rw [if_pos hlt, if_pos hlt, if_pos hlt]
    have C2 := Lib.hid (number_rd w lo g bs at_ m hm hR)
    have x1 : (m : Int) ≤ ((bs.length - at_ : Nat) : Int) := by omega
    have HLT := Lib.hid hlt
    generalize accB bs at_ m = y at *
    clear hR hlt
    go_enter Tryz.func174, Tryz.ntmps174
    go_wp2_with fail
    refine C.out.mono ?_
    rintro e w1 ⟨rfl, q, hq⟩
    have hR1 : Rd w1 lo g bs at_ := by rw [hq]; exact HR.out.drewN q
    have d2 := hR1.cellAt
    have g2 : w1.frozen? ⟨g, 2, none⟩ = false := by rw [hq]; exact f2
    have C4 : Hid (∀ p, Calls Tryz.prog 165 #[.pointer (some ⟨g, 0, none⟩), .int .i64 (at_ : Nat), .int .i64 (m : Nat)] (w1.drewN p) fun e w' => e = .returned (.int .u64 (y : Nat)) ∧ w' = w1.drewN p) := by
      intro p
      have h := C2.out (q + p)
      rw [hq, World.drewN_drewN]
      exact h
    have HR1 := Lib.hid hR1
    have HK1 : Hid (Kept (fun x => x ≠ g) w w1) := by show Kept _ w w1; rw [hq]; exact (Kept.refl _ w).drewN q
    clear hq hR1 C C2 c2 f2
    go_wp2_with fail
    go_quiet (first | (go_at_call 165; exact Calls.quiet_of_same (C4.out _)))
    go_wp2_with fail
    go_ret2
    exact ⟨rfl, (HR1.out.drewN _).moved HLT.out, Kept.set (p := ⟨g, 2, none⟩) (HK1.out.drewN _) (fun h => h rfl) _⟩
  · rw [if_neg hlt, if_neg hlt, if_neg hlt]
    have x1 : ¬ (m : Int) ≤ ((bs.length - at_ : Nat) : Int) := by omega
    clear hR
    go_enter Tryz.func174, Tryz.ntmps174
    go_wp2_with fail
    refine C.out.mono ?_
    rintro e w1 ⟨rfl, q, rfl⟩
    go_wp2_with fail
    go_ret2
    exact ⟨rfl, HR.out.drewN q, (Kept.refl _ w).drewN q⟩

set_option maxRecDepth 100000 in
theorem rbget_any (w : World) (g hi : Nat) (bs : List Bool) (at_ m : Nat) (hm : m ≤ 64) (hR : RRd w g hi bs at_) :
    Calls Tryz.prog 83 #[.pointer (some ⟨g, 0, none⟩), .int .i64 (m : Nat)] w fun e w' =>
      e = .returned (.tuple #[.int .u64 (gotV bs at_ m : Nat), .int .i64 (gotE bs at_ m)]) ∧ RRd w' g hi bs (gotA bs at_ m) ∧ Kept (fun x => x ≠ g) w w' := by
  have C := Lib.hid (rleft_any w g hi bs at_ hR)
  have C2 := Lib.hid (fun q => rpeek_any (w.drewN q) g hi bs at_ m hm (hR.drewN q))
  have HR := Lib.hid hR
  obtain ⟨A, c, _, c1, f1, _, hat1, hat2⟩ := hR.cells
  unfold gotV gotE gotA
  by_cases hlt : at_ + m ≤ bs.length
  · rw [if_pos hlt, if_pos hlt, if_pos hlt]
    have x1 : (m : Int) ≤ ((bs.length - at_ : Nat) : Int) := by omega
    have HLT := Lib.hid hlt
    generalize accB bs at_ m = y at *
    clear hR hlt
    go_enter Tryz.func83, Tryz.ntmps83
    go_wp2_with fail
    refine C.out.mono ?_
    rintro e w1 ⟨rfl, q, rfl⟩
    go_wp2_with fail
    refine (C2.out q).mono ?_
    rintro e w2 ⟨rfl, q2, rfl⟩
    go_wp2_with fail
    go_ret2
    exact ⟨rfl, (HR.out.drewN (q + q2)).moved HLT.out, Kept.set (p := ⟨g, 1, none⟩) ((Kept.refl (fun x => x ≠ g) w).drewN (q + q2)) (fun h => h rfl) _⟩
  · rw [if_neg hlt, if_neg hlt, if_neg hlt]
    have x1 : ¬ (m : Int) ≤ ((bs.length - at_ : Nat) : Int) := by omega
    clear hR
    go_enter Tryz.func83, Tryz.ntmps83
    go_wp2_with fail
    refine C.out.mono ?_
    rintro e w1 ⟨rfl, q, rfl⟩
    go_wp2_with fail
    go_ret2
    exact ⟨rfl, HR.out.drewN q, (Kept.refl _ w).drewN q⟩
end Go.Proofs.YtidclmmnfienlaaGreatDoor.Huff

/-
  The walks of the reference's R: Reader, Left, Skip, Peek, Pad.
-/
import Derived.Test.YtdfpcnldfibceaaRefW
import Derived.Test.YtdfpcnldfibceaaBitsRead
namespace Go.Proofs.Ytdfpcnldfibceaa.Huff
open Go.RowKit Go.Proofs.Ytdfpcnldfibceaa.Mem Go.Proofs.Ytdfpcnldfibceaa.Canon Go.Proofs.Ytdfpcnldfibceaa.Own

/-- The reference's reader of the bits bs, at a place. -/
def RRd (w : World) (g hi : Nat) (bs : List Bool) (at_ : Nat) : Prop :=
  ∃ (A : Option Addr) (c : Nat), Blk w g 148 #[.slice A bs.length c, .int .i64 at_] ∧ RowIn w (g + 1) hi A bs.length 1 (numF .u8 (b01 bs)) ∧ at_ ≤ bs.length ∧ bs.length ≤ 800000
theorem RRd.keep {w w' : World} {g hi at_ : Nat} {bs : List Bool} (h : RRd w g hi bs at_) (hk : ∀ b, g ≤ b → (b < hi ∨ b = g) → w'.heap[b]? = w.heap[b]?) : RRd w' g hi bs at_ := by
  obtain ⟨A, c, h1, h2, h3⟩ := h
  exact ⟨A, c, (hk g (Nat.le_refl _) (.inr rfl)).trans h1, h2.keep (fun p ha hb => World.cell?_of_block (hk p.block (by omega) (.inl hb))), h3⟩
theorem RRd.drewN {w : World} {g hi at_ : Nat} {bs : List Bool} (h : RRd w g hi bs at_) (q : Nat) : RRd (w.drewN q) g hi bs at_ := h
theorem RRd.moved {w : World} {g hi at_ k : Nat} {bs : List Bool} (h : RRd w g hi bs at_) (hk : at_ + k ≤ bs.length) : RRd (w.setCell ⟨g, 1, none⟩ (.int .i64 ((at_ : Int) + (k : Int)))) g hi bs (at_ + k) := by
  obtain ⟨A, c, h1, h2, h3, h4⟩ := h
  refine ⟨A, c, ?_, h2.keep (fun p ha _ => World.cell?_of_block (Below.heap_setCell w _ _ _ (show p.block ≠ g by omega))), hk, h4⟩
  have h := h1.set 1 (.int .i64 ((at_ : Int) + (k : Int)))
  simpa using h
theorem RRd.cells {w : World} {g hi at_ : Nat} {bs : List Bool} (h : RRd w g hi bs at_) : ∃ A c, w.cell? ⟨g, 0, none⟩ = some (.slice A bs.length c) ∧ w.cell? ⟨g, 1, none⟩ = some (.int .i64 at_) ∧ w.frozen? ⟨g, 1, none⟩ = false ∧ RowIn w (g + 1) hi A bs.length 1 (numF .u8 (b01 bs)) ∧ at_ ≤ bs.length ∧ bs.length ≤ 800000 := by
  obtain ⟨A, c, h1, h2, h3, h4⟩ := h
  exact ⟨A, c, h1.cell 0, h1.cell 1, h1.frozen 1, h2, h3, h4⟩

set_option maxRecDepth 100000 in
theorem rleft_any (w : World) (g hi : Nat) (bs : List Bool) (at_ : Nat) (hR : RRd w g hi bs at_) :
    Calls Try.prog 60 #[.pointer (some ⟨g, 0, none⟩)] w fun e w' => e = .returned (.int .i64 ((bs.length - at_ : Nat) : Int)) ∧ ∃ q, w' = w.drewN q := by
  obtain ⟨A, c, c0, c1, _, _, h3, h4⟩ := hR.cells
  generalize bs.length = z at *
  have s1 : IntKind.i64.wrap ((z : Int) - (at_ : Int)) = ((z - at_ : Nat) : Int) := by rw [IntWalk.i64_in _ (by omega)]; omega
  clear hR
  go_enter Try.func60, Try.ntmps60
  go_wp2_with fail
  go_quiet (fail)
  go_wp2_with fail
  go_ret
  exact ⟨rfl, _, rfl⟩

set_option maxRecDepth 100000 in
theorem rskip_any (w : World) (g hi : Nat) (bs : List Bool) (at_ k : Nat) (hk : k ≤ 100000) (hR : RRd w g hi bs at_) :
    Calls Try.prog 56 #[.pointer (some ⟨g, 0, none⟩), .int .i64 (k : Nat)] w fun e w' =>
      e = .returned (.int .i64 (if at_ + k ≤ bs.length then 0 else 1)) ∧ RRd w' g hi bs (if at_ + k ≤ bs.length then at_ + k else at_) ∧ Kept (fun x => x ≠ g) w w' := by
  have C := Lib.hid (rleft_any w g hi bs at_ hR)
  have HR := Lib.hid hR
  obtain ⟨A, c, c0, c1, f1, _, h3, h4⟩ := hR.cells
  obtain ⟨z, hz⟩ : ∃ z, z = bs.length := ⟨_, rfl⟩
  rw [← hz] at C h3 h4 ⊢
  have HZ := Lib.hid hz
  clear hR hz c0
  by_cases hlt : at_ + k ≤ z
  · rw [if_pos hlt, if_pos hlt]
    have x1 : (k : Int) ≤ ((z - at_ : Nat) : Int) := by omega
    go_enter Try.func56, Try.ntmps56
    go_wp2_with fail
    refine C.out.mono ?_
    rintro e w1 ⟨rfl, q, rfl⟩
    go_wp2_with fail
    go_ret
    exact ⟨rfl, (HR.out.drewN q).moved (by rw [← HZ.out]; exact hlt), Kept.set (p := ⟨g, 1, none⟩) ((Kept.refl _ w).drewN q) (fun h => h rfl) _⟩
  · rw [if_neg hlt, if_neg hlt]
    have x1 : ¬ (k : Int) ≤ ((z - at_ : Nat) : Int) := by omega
    go_enter Try.func56, Try.ntmps56
    go_wp2_with fail
    refine C.out.mono ?_
    rintro e w1 ⟨rfl, q, rfl⟩
    go_wp2_with fail
    go_ret
    exact ⟨rfl, HR.out.drewN q, (Kept.refl _ w).drewN q⟩

set_option maxHeartbeats 1000000 in
set_option maxRecDepth 100000 in
theorem rpeek_any (w : World) (g hi : Nat) (bs : List Bool) (at_ m : Nat) (hm : m ≤ 64) (hR : RRd w g hi bs at_) :
    Calls Try.prog 111 #[.pointer (some ⟨g, 0, none⟩), .int .i64 (m : Nat)] w fun e w' =>
      e = .returned (.tuple #[.int .u64 (accB bs at_ m : Nat), .int .i64 ((min m (bs.length - at_) : Nat) : Int)]) ∧ ∃ q, w' = w.drewN q := by
  have HR := Lib.hid hR
  clear hR
  go_enter Try.func111, Try.ntmps111
  go_wp2_with fail
  go_loopw [6, 7, 8] (fun u v i wr => ∃ k x th : Nat, k ≤ m ∧ i = .int .i64 k ∧ u = .int .u64 x ∧ v = .int .i64 th ∧ Hid (x = accB bs at_ k) ∧ Hid (th = min k (bs.length - at_)) ∧ Hid (∃ q, wr = w.drewN q)) (fun _ _ i _ => m - (intOf i).toNat)
  case atStart => exact ⟨0, 0, 0, by omega, rfl, rfl, rfl, rfl, by show 0 = _; omega, ⟨0, rfl⟩⟩
  case round =>
    obtain ⟨k, x, th, hk, rfl, rfl, rfl, hx, hth, hdr⟩ := hrel
    by_cases hlt : k < m
    · have hR1 : RRd wr g hi bs at_ := by obtain ⟨q, hq⟩ := hdr.out; rw [hq]; exact HR.out
      have C := Lib.hid (rleft_any wr g hi bs at_ hR1)
      have HR1 := Lib.hid hR1
      have hxl := accB_lt bs at_ k
      rw [← hx.out] at hxl
      have hx63 : x < 9223372036854775808 := Nat.lt_of_lt_of_le hxl (by have : 2 ^ k ≤ 2 ^ 63 := Nat.pow_le_pow_right (by omega) (by omega); omega)
      have hstep : accB bs at_ (k + 1) = 2 * x + bit bs (at_ + k) := by rw [accB, ← hx.out]
      clear hR1 hxl hx
      by_cases hin : at_ + k < bs.length
      · have x1 : (k : Int) < ((bs.length - at_ : Nat) : Int) := by omega
        have hbl := bit_le bs (at_ + k)
        have hth2 : th + 1 = min (k + 1) (bs.length - at_) := by have := hth.out; omega
        have htb : th ≤ 64 := by have := hth.out; omega
        have HT := Lib.hid hth2
        have HS := Lib.hid hstep
        clear hth hth2 hstep
        go_wp2_with fail
        refine C.out.mono ?_
        rintro e w2 ⟨rfl, q2, hq2⟩
        have hR2 : RRd w2 g hi bs at_ := by rw [hq2]; exact HR1.out.drewN q2
        have HD : Hid (∃ q, w2 = w.drewN q) := by
          obtain ⟨q, rfl⟩ := hdr.out
          exact ⟨_, by rw [hq2, World.drewN_drewN]⟩
        obtain ⟨A, c, c0, c1, _, hrow, h3, h4⟩ := hR2.cells
        obtain ⟨b, off, y, rfl, _, hy, d0⟩ := num_cell hrow.row (b01_length bs) hin
        have hyb : bit bs (at_ + k) = y := by rw [← b01_get, List.getD_eq_getElem?_getD, hy]; rfl
        rw [hyb] at hbl HS
        have x2 : (0 : Int) ≤ (at_ : Int) + (k : Int) := by omega
        have x3 : (at_ : Int) + (k : Int) < ((bs.length : Nat) : Int) := by omega
        generalize hz : bs.length = z at *
        have HZ := Lib.hid hz
        clear hz hq2 hR2 hrow hy hyb C
        go_wp2_with fail
        go_quiet (fail)
        go_wp2_with fail
        go_roundw
        case measure => go_light; simp [intOf]; omega
        case rel =>
          go_light
          refine ⟨k + 1, 2 * x + y, th + 1, by omega, by go_num, by go_num, by go_num, HS.out.symm, ?_, ?_⟩
          · rw [HZ.out]; exact HT.out
          · obtain ⟨q, rfl⟩ := HD.out
            exact ⟨_, World.drewN_drewN _ _ _⟩
      · have x1 : ¬ (k : Int) < ((bs.length - at_ : Nat) : Int) := by omega
        rw [bit_out (by omega), Nat.add_zero] at hstep
        have hth2 : th = min (k + 1) (bs.length - at_) := by have := hth.out; omega
        have HT := Lib.hid hth2
        have HS := Lib.hid hstep
        clear hth hth2 hstep
        go_wp2_with fail
        refine C.out.mono ?_
        rintro e w2 ⟨rfl, q2, hq2⟩
        have HD : Hid (∃ q, w2 = w.drewN q) := by
          obtain ⟨q, rfl⟩ := hdr.out
          exact ⟨_, by rw [hq2, World.drewN_drewN]⟩
        clear hq2 C
        go_wp2_with fail
        go_roundw
        case measure => go_light; simp [intOf]; omega
        case rel =>
          go_light
          exact ⟨k + 1, 2 * x, th, by omega, by go_num, by go_num, rfl, HS.out.symm, HT.out, HD.out⟩
    · obtain rfl : k = m := by omega
      go_wp2_with fail
      go_ret2
      exact ⟨by rw [← hx.out, ← hth.out]; rfl, hdr.out⟩
end Go.Proofs.Ytdfpcnldfibceaa.Huff

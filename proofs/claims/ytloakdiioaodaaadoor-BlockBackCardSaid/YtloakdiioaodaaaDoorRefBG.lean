/-
  The walks of the reference's R: Reader, Left, Skip, Peek, Pad.
  The walks of bits' Reader.Get and of the reference's R.Get.
-/
import Derived.Test.YtloakdiioaodaaaDoorRefW
import Derived.Test.YtloakdiioaodaaaDoorBitsRead

namespace Go.Proofs.YtloakdiioaodaaaDoor.Huff
open Go.RowKit Go.Proofs.YtloakdiioaodaaaDoor.Mem Go.Proofs.YtloakdiioaodaaaDoor.Canon Go.Proofs.YtloakdiioaodaaaDoor.Own

/-- The reference's reader of the bits bs, at a place. -/
def RRd (w : World) (g hi : Nat) (bs : List Bool) (at_ : Nat) : Prop :=
  ∃ (A : Option Addr) (c : Nat), Blk w g 219 #[.slice A bs.length c, .int .i64 at_] ∧ RowIn w (g + 1) hi A bs.length 1 (numF .u8 (b01 bs)) ∧ at_ ≤ bs.length ∧ bs.length ≤ 800000
theorem RRd.keep {w w' : World} {g hi at_ : Nat} {bs : List Bool} (h : RRd w g hi bs at_) (hk : ∀ b, g ≤ b → (b < hi ∨ b = g) → w'.heap[b]? = w.heap[b]?) : RRd w' g hi bs at_ := by
  obtain ⟨A, c, h1, h2, h3⟩ := h
  exact ⟨A, c, (hk g (Nat.le_refl _) (.inr rfl)).trans h1, h2.keep (fun p ha hb => World.cell?_of_block (hk p.block (by omega) (.inl hb))), h3⟩
theorem RRd.drewN {w : World} {g hi at_ : Nat} {bs : List Bool} (h : RRd w g hi bs at_) (q : Nat) : RRd (w.drewN q) g hi bs at_ := h
theorem RRd.moved {w : World} {g hi at_ k : Nat} {bs : List Bool} (h : RRd w g hi bs at_) (hk : at_ + k ≤ bs.length) : RRd (w.setCell ⟨g, 1, none⟩ (.int .i64 ((at_ : Int) + (k : Int)))) g hi bs (at_ + k) := by
  obtain ⟨A, c, h1, h2, h3, h4⟩ := h
  refine ⟨A, c, ?_, h2.keep (fun p ha _ => World.cell?_of_block (Below.heap_setCell w _ _ _ (show p.block ≠ g by omega))), hk, h4⟩
  have h := h1.set 1 (.int .i64 ((at_ : Int) + (k : Int)))
  simpa using h
theorem RRd.cells {w : World} {g hi at_ : Nat} {bs : List Bool} (h : RRd w g hi bs at_) : ∃ A c, w.cell? ⟨g, 0, none⟩ = some (.slice A bs.length c) ∧ w.cell? ⟨g, 1, none⟩ = some (.int .i64 at_) ∧ w.frozen? ⟨g, 1, none⟩ = false ∧ RowIn w (g + 1) hi A bs.length 1 (numF .u8 (b01 bs)) ∧ at_ ≤ bs.length ∧ bs.length ≤ 800000 := by
  obtain ⟨A, c, h1, h2, h3, h4⟩ := h
  exact ⟨A, c, h1.cell 0, h1.cell 1, h1.frozen 1, h2, h3, h4⟩

end Go.Proofs.YtloakdiioaodaaaDoor.Huff

namespace Go.Proofs.YtloakdiioaodaaaDoor.Huff
open Go.RowKit Go.Proofs.YtloakdiioaodaaaDoor.Mem Go.Proofs.YtloakdiioaodaaaDoor.Canon Go.Proofs.YtloakdiioaodaaaDoor.Own

/-- The number that is got, the error, the place behind it. -/
def gotV (bs : List Bool) (at_ m : Nat) : Nat := if at_ + m ≤ bs.length then accB bs at_ m else 0
def gotE (bs : List Bool) (at_ m : Nat) : Int := if at_ + m ≤ bs.length then 0 else 1
def gotA (bs : List Bool) (at_ m : Nat) : Nat := if at_ + m ≤ bs.length then at_ + m else at_

set_option maxRecDepth 100000 in
theorem bget_any (w : World) (lo g : Nat) (bs : List Bool) (at_ m : Nat) (hm : m ≤ 64) (hR : Rd w lo g bs at_) :
    Calls Tryd.prog 105 #[.pointer (some ⟨g, 0, none⟩), .int .i64 (m : Nat)] w fun e w' =>
      e = .returned (.tuple #[.int .u64 (gotV bs at_ m : Nat), .int .i64 (gotE bs at_ m)]) ∧ Rd w' lo g bs (gotA bs at_ m) ∧ Kept (fun x => x ≠ g) w w' := by
  have C := Lib.hid (left_any w lo g bs at_ hR)
  have HR := Lib.hid hR
  have hat : at_ ≤ bs.length ∧ bs.length ≤ 800000 := by
    obtain ⟨A, n, c, ls, h1, h2, h3, h4, h5, h6, h7⟩ := hR
    rw [h5, rbits_length, h3]; omega
  obtain ⟨hat1, hat2⟩ := hat
  have c2 := hR.cellAt
  have f2 : w.frozen? ⟨g, 2, none⟩ = false := by
    obtain ⟨A, n, c, ls, h1, _⟩ := hR
    exact h1.frozen 2
  unfold gotV gotE gotA
  by_cases hlt : at_ + m ≤ bs.length
  · rw [if_pos hlt, if_pos hlt, if_pos hlt]
    have C2 := Lib.hid (number_rd w lo g bs at_ m hm hR)
    have x1 : (m : Int) ≤ ((bs.length - at_ : Nat) : Int) := by omega
    have HLT := Lib.hid hlt
    generalize accB bs at_ m = y at *
    clear hR hlt
    go_enter Tryd.func105, Tryd.ntmps105
    go_wp2_with fail
    refine C.out.mono ?_
    rintro e w1 ⟨rfl, q, hq⟩
    have hR1 : Rd w1 lo g bs at_ := by rw [hq]; exact HR.out.drewN q
    have d2 := hR1.cellAt
    have g2 : w1.frozen? ⟨g, 2, none⟩ = false := by rw [hq]; exact f2
    have C4 : Hid (∀ p, Calls Tryd.prog 98 #[.pointer (some ⟨g, 0, none⟩), .int .i64 (at_ : Nat), .int .i64 (m : Nat)] (w1.drewN p) fun e w' => e = .returned (.int .u64 (y : Nat)) ∧ w' = w1.drewN p) := by
      intro p
      have h := C2.out (q + p)
      rw [hq, World.drewN_drewN]
      exact h
    have HR1 := Lib.hid hR1
    have HK1 : Hid (Kept (fun x => x ≠ g) w w1) := by show Kept _ w w1; rw [hq]; exact (Kept.refl _ w).drewN q
    clear hq hR1 C C2 c2 f2
    go_wp2_with fail
    go_quiet (first | (go_at_call 98; exact Calls.quiet_of_same (C4.out _)))
    go_wp2_with fail
    go_ret2
    exact ⟨rfl, (HR1.out.drewN _).moved HLT.out, Kept.set (p := ⟨g, 2, none⟩) (HK1.out.drewN _) (fun h => h rfl) _⟩
  · rw [if_neg hlt, if_neg hlt, if_neg hlt]
    have x1 : ¬ (m : Int) ≤ ((bs.length - at_ : Nat) : Int) := by omega
    clear hR
    go_enter Tryd.func105, Tryd.ntmps105
    go_wp2_with fail
    refine C.out.mono ?_
    rintro e w1 ⟨rfl, q, rfl⟩
    go_wp2_with fail
    go_ret2
    exact ⟨rfl, HR.out.drewN q, (Kept.refl _ w).drewN q⟩

end Go.Proofs.YtloakdiioaodaaaDoor.Huff

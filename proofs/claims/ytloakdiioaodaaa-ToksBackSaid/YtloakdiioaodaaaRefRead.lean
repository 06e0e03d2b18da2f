/-
  The walks of the reference's R: Reader, Left, Skip, Peek, Pad.
-/
import Derived.Test.YtloakdiioaodaaaRefW
import Derived.Test.YtloakdiioaodaaaBitsRead
namespace Go.Proofs.Ytloakdiioaodaaa.Huff
open Go.RowKit Go.Proofs.Ytloakdiioaodaaa.Mem Go.Proofs.Ytloakdiioaodaaa.Canon Go.Proofs.Ytloakdiioaodaaa.Own

/-- The reference's reader of the bits bs, at a place. -/
def RRd (w : World) (g hi : Nat) (bs : List Bool) (at_ : Nat) : Prop :=
  ∃ (A : Option Addr) (c : Nat), Blk w g 195 #[.slice A bs.length c, .int .i64 at_] ∧ RowIn w (g + 1) hi A bs.length 1 (numF .u8 (b01 bs)) ∧ at_ ≤ bs.length ∧ bs.length ≤ 800000
theorem RRd.keep {w w' : World} {g hi at_ : Nat} {bs : List Bool} (h : RRd w g hi bs at_) (hk : ∀ b, g ≤ b → (b < hi ∨ b = g) → w'.heap[b]? = w.heap[b]?) : RRd w' g hi bs at_ := by
  obtain ⟨A, c, h1, h2, h3⟩ := h
  exact ⟨A, c, (hk g (Nat.le_refl _) (.inr rfl)).trans h1, h2.keep (fun p ha hb => World.cell?_of_block (hk p.block (by omega) (.inl hb))), h3⟩
theorem RRd.drewN {w : World} {g hi at_ : Nat} {bs : List Bool} (h : RRd w g hi bs at_) (q : Nat) : RRd (w.drewN q) g hi bs at_ := h
theorem RRd.moved {w : World} {g hi at_ k : Nat} {bs : List Bool} (h : RRd w g hi bs at_) (hk : at_ + k ≤ bs.length) : RRd (w.setCell ⟨g, 1, none⟩ (.int .i64 ((at_ : Int) + (k : Int)))) g hi bs (at_ + k) := by
  obtain ⟨A, c, h1, h2, h3, h4⟩ := h
  refine ⟨A, c, ?_, h2.keep (fun p ha _ => World.cell?_of_block (Below.heap_setCell w _ _ _ (show p.block ≠ g by omega))), hk, h4⟩
  have h := h1.set 1 (.int .i64 ((at_ : Int) + (k : Int)))
  simpa using h
theorem RRd.cells {w : World} {g hi at_ : Nat} {bs : List Bool} (h : RRd w g hi bs at_) : ∃ A c, w.cell? ⟨g, 0, none⟩ = some (.slice A bs.length c) ∧ w.cell? ⟨g, 1, none⟩ = some (.int .i64 at_) ∧ w.frozen? ⟨g, 1, none⟩ = false ∧ RowIn w (g + 1) hi A bs.length 1 (numF .u8 (b01 bs)) ∧ at_ ≤ bs.length ∧ bs.length ≤ 800000 := by
  obtain ⟨A, c, h1, h2, h3, h4⟩ := h
  exact ⟨A, c, h1.cell 0, h1.cell 1, h1.frozen 1, h2, h3, h4⟩

end Go.Proofs.Ytloakdiioaodaaa.Huff

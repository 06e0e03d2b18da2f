/-
  The walk of the example of chapter 36, and of the statement DiffLimits.
-/
import Derived.Test.YtdfpcnldfibceaaDiffWalk
import Derived.Test.YtdfpcnldfibceaaSameEds
import Derived.KernelRfl
namespace Go.Proofs.Ytdfpcnldfibceaa.Diff
open Go.RowKit Go.Proofs.Ytdfpcnldfibceaa.Mem Go.Proofs.Ytdfpcnldfibceaa.Recs

def rcT (b : UInt8) : Rec := ⟨0, 0, ⟨#[]⟩, ⟨#[b]⟩⟩
theorem rcT_ne {a b : UInt8} (h : a ≠ b) : rcT a ≠ rcT b := by
  intro e
  apply h
  have := congrArg Rec.text e
  simpa [rcT] using this
theorem alive_diff : diffL [rcT 97, rcT 98, rcT 99] [rcT 97, rcT 120, rcT 99] = [⟨1, 1, []⟩, ⟨2, 1, []⟩, ⟨3, 0, [rcT 120]⟩, ⟨1, 1, []⟩] := by
  have h1 : rcT 98 ≠ rcT 120 := rcT_ne (by decide)
  have h2 : rcT 98 ≠ rcT 99 := rcT_ne (by decide)
  have h3 : rcT 99 ≠ rcT 120 := rcT_ne (by decide)
  simp [diffL, diffGo, lcs_cons, lcs_nil_left, lcs_nil_right, h1, h2, h3, addE]

abbrev aliveA : Obj := .cells #[.int .u64 0, .int .u8 0, .string ⟨#[]⟩, .string ⟨#[97]⟩, .int .u64 0, .int .u8 0, .string ⟨#[]⟩, .string ⟨#[98]⟩, .int .u64 0, .int .u8 0, .string ⟨#[]⟩, .string ⟨#[99]⟩] 91
abbrev aliveB : Obj := .cells #[.int .u64 0, .int .u8 0, .string ⟨#[]⟩, .string ⟨#[97]⟩, .int .u64 0, .int .u8 0, .string ⟨#[]⟩, .string ⟨#[120]⟩, .int .u64 0, .int .u8 0, .string ⟨#[]⟩, .string ⟨#[99]⟩] 91
abbrev aliveE (b : Nat) : Obj := .cells #[.int .i64 1, .int .i64 1, .slice none 0 0, .int .i64 2, .int .i64 1, .slice none 0 0, .int .i64 3, .int .i64 0, .slice (some ⟨b + 1, 4, none⟩) 1 2, .int .i64 1, .int .i64 1, .slice none 0 0] 116
theorem EdsAt.rowAt {w w' : World} {base : Nat} {v : Value} {es : List Ed} {rvs : List Value} (h : EdsAt w base v es rvs) (hb : Below w.heap.size w w') : ∃ A c, v = .slice A es.length c ∧ EdRow w' w'.heap.size A es := by
  obtain ⟨A, c, e, hr⟩ := h.row
  exact ⟨A, c, e, (hr.below hb).mono hb.size⟩

set_option maxHeartbeats 400000 in
theorem alive36 (w : World) : Calls Try.prog 29 #[] w fun e w' => e = .returned (.bool true) ∧ Below w.heap.size w w' := by
  have c := fun wx (h1 : Row _ _ _ _ _ _) h2 => diff_any wx (some ⟨w.heap.size, 0, none⟩) (some ⟨w.heap.size + 1, 0, none⟩) 3 3 3 3 [rcT 97, rcT 98, rcT 99] [rcT 97, rcT 120, rcT 99] rfl rfl (by omega) (by omega) h1 h2
  unfold DiffPost at c
  simp only [alive_diff] at c
  have C := Lib.hid c
  clear c
  go_enter Try.func29, Try.ntmps29
  go_wp2_with fail
  have bA : Blk ((w.alloc aliveA).alloc aliveB) w.heap.size _ _ := (Blk.made w 91 _).alloc _
  have bB : Blk ((w.alloc aliveA).alloc aliveB) (w.heap.size + 1) _ _ := Blk.made_at (w.alloc aliveA) 91 _ (by simp)
  have hbel : Below w.heap.size w ((w.alloc aliveA).alloc aliveB) := bel_alloc0 (bel_alloc0 (Below.refl _ _))
  have hsz : ((w.alloc aliveA).alloc aliveB).heap.size = w.heap.size + 2 := by simp
  generalize (w.alloc aliveA).alloc aliveB = wx at *
  have hlo : w.heap.size + 2 ≤ wx.heap.size := by omega
  clear hsz
  refine (C.out _ (Row.of_blk bA (by omega) ?_) (Row.of_blk bB (by omega) ?_)).mono ?_
  · intro i j hi hj
    have : (i = 0 ∨ i = 1 ∨ i = 2) ∧ (j = 0 ∨ j = 1 ∨ j = 2 ∨ j = 3) := by omega
    obtain ⟨rfl | rfl | rfl, rfl | rfl | rfl | rfl⟩ := this <;> rfl
  · intro i j hi hj
    have : (i = 0 ∨ i = 1 ∨ i = 2) ∧ (j = 0 ∨ j = 1 ∨ j = 2 ∨ j = 3) := by omega
    obtain ⟨rfl | rfl | rfl, rfl | rfl | rfl | rfl⟩ := this <;> rfl
  rintro e w1 ⟨v, rvs, rfl, heds, hb1⟩
  have bB1 := bB.step hb1
  have hz1 := hb1.size
  obtain ⟨va, vc, rfl⟩ := own_shape heds.own
  go_wp2_with fail
  obtain ⟨va', vc', e1, hrow⟩ := heds.rowAt (bel_alloc0 (o := aliveE w.heap.size) (Below.refl _ _))
  injection e1 with e1 e2 e3
  subst e1
  clear e2 e3
  have bE : Blk (w1.alloc (aliveE w.heap.size)) w1.heap.size _ _ := Blk.made w1 116 _
  have bB2 := bB1.alloc (aliveE w.heap.size)
  have hbel2 : Below w.heap.size w (w1.alloc (aliveE w.heap.size)) := bel_alloc0 (bel_step hb1 (by omega) hbel)
  have hsz : (w1.alloc (aliveE w.heap.size)).heap.size = w1.heap.size + 1 := by simp
  generalize w1.alloc (aliveE w.heap.size) = w2 at *
  have hlo2 : w1.heap.size + 1 ≤ w2.heap.size := by omega
  clear hsz
  refine (eds_same _ _ _ 4 vc 4 _ rfl (by omega) (by intro e he; simp at he; rcases he with rfl | rfl | rfl | rfl <;> simp) hrow ?_).mono ?_
  · refine fun _ => ⟨_, 0, rfl, by omega, fun i e he => ?_⟩
    have hi : i < 4 := (List.getElem?_eq_some_iff.1 he).1
    have : i = 0 ∨ i = 1 ∨ i = 2 ∨ i = 3 := by omega
    rcases this with rfl | rfl | rfl | rfl
    · injection he with he; subst he
      exact ⟨none, 0, bE.cell 0, bE.cell 1, bE.cell 2, Row.zero, Wf.nil⟩
    · injection he with he; subst he
      exact ⟨none, 0, bE.cell 3, bE.cell 4, bE.cell 5, Row.zero, Wf.nil⟩
    · injection he with he; subst he
      refine ⟨some ⟨w.heap.size + 1, 4, none⟩, 2, bE.cell 6, bE.cell 7, bE.cell 8, fun _ => ⟨_, _, rfl, by omega, fun i j hi hj => ?_⟩, Wf.some (by simp)⟩
      simp only [List.length_cons, List.length_nil] at hi
      obtain rfl : i = 0 := by omega
      have : j = 0 ∨ j = 1 ∨ j = 2 ∨ j = 3 := by omega
      rcases this with rfl | rfl | rfl | rfl
      · exact bB2.cell 4
      · exact bB2.cell 5
      · exact bB2.cell 6
      · exact bB2.cell 7
    · injection he with he; subst he
      exact ⟨none, 0, bE.cell 9, bE.cell 10, bE.cell 11, Row.zero, Wf.nil⟩
  rintro e w3 ⟨rfl, q, rfl⟩
  go_wp2_with fail
  go_ret
  exact ⟨rfl, below_drewN hbel2 _⟩
end Go.Proofs.Ytdfpcnldfibceaa.Diff

/-
  How an argument that is a slice of bytes, or of integers, reads.
-/
import Derived.Test.YtdfpcnldfibceaaOpen
import Derived.Test.YtdfpcnldfibceaaCloneNum
namespace Go.Proofs.Ytdfpcnldfibceaa.Open
open Go.ChangeShapes Go.WideShapes Go.RowKit Go.Deep Go.Proofs.Ytdfpcnldfibceaa.Mem Go.Proofs.Ytdfpcnldfibceaa.Canon

theorem wf_of {H : Type} {enc : TypeId × Value → H} {P : Program} {w : World} {base : Nat} {spare : Nat → Bool} {held : Bool} {fuel : Nat} {t e : TypeId} {A : Option Addr} {len cap : Nat} {x : DataW H × List MemPlace} (ht : P.underlying t = some (.slice e))
    (h : DataW.trod enc P w base spare held fuel t [.slice A len cap] = some x) : Wf A len cap := by
  rcases open_slice ht h with ⟨h0, _⟩ | ⟨a, len', cap', m, n, D, Pl, hcs, hb, hl, hm, hmm, hx, hi⟩
  · simp at h0
    obtain ⟨rfl, rfl, rfl⟩ := h0
    exact Wf.nil
  · simp at hcs
    obtain ⟨rfl, rfl, rfl⟩ := hcs
    exact Wf.some hl
def intF (k : IntKind) (l : List Int) : Nat → Nat → Value := fun i _ => .int k (l.getD i 0)

theorem bytes8 {H : Type} {enc : TypeId × Value → H} {w : World} {base : Nat} {spare : Nat → Bool} {held : Bool} {fuel : Nat} {A : Option Addr} {len cap : Nat} {x : DataW H × List MemPlace}
    (h : DataW.trod enc Try.prog w base spare held fuel 56 [.slice A len cap] = some x) :
    ∃ ls : List Nat, ls.length = len ∧ (∀ x ∈ ls, x ≤ 255) ∧ Row w w.heap.size A len 1 (numF .u8 ls) ∧ len ≤ 9223372036854775807 ∧ Wf A len cap := by
  have hwf := wf_of Try.underlying56 h
  obtain ⟨h1, h2, h3⟩ := singles Try.underlying56 (by kernel_rfl) h
  have hcell : ∀ i, i < len → ∃ b off v, A = some ⟨b, off, none⟩ ∧ b < w.heap.size ∧ w.cell? ⟨b, off + i, none⟩ = some (.int .u8 (v : Nat)) ∧ v ≤ 255 ∧ cellInt w A i = (v : Nat) := by
    intro i hi
    obtain ⟨b, off, rfl, hb, hc⟩ := h3 (by omega)
    obtain ⟨v0, y0, n0, c0, t0⟩ := hc i hi
    obtain ⟨x0, e0, _, w0⟩ := DataW.trod_int Try.underlying5 t0
    simp only [List.cons.injEq, and_true] at e0
    subst e0
    have hbd := bounds_u8 w0
    obtain ⟨m, rfl⟩ := Int.eq_ofNat_of_zero_le hbd.1
    exact ⟨b, off, m, rfl, hb, c0, by omega, cellInt_of c0⟩
  refine ⟨(List.range len).map fun i => (cellInt w A i).toNat, by simp, ?_, ?_, by unfold maxLen at h2; omega, hwf⟩
  · intro t ht
    obtain ⟨i, hi, rfl⟩ := List.mem_map.1 ht
    obtain ⟨b, off, v, _, _, _, hv, e⟩ := hcell i (List.mem_range.1 hi)
    rw [e]; omega
  · intro hn
    obtain ⟨b, off, v, rfl, hb, _⟩ := hcell 0 hn
    refine ⟨b, off, rfl, hb, fun i j hi hj => ?_⟩
    obtain rfl : j = 0 := by omega
    obtain ⟨b', off', v', e1, _, hc, _, e2⟩ := hcell i hi
    injection e1 with e1
    injection e1 with e1 e3
    subst e1 e3
    have e : numF .u8 ((List.range len).map fun i => (cellInt w (some ⟨b, off, none⟩) i).toNat) i 0 = .int .u8 (v' : Nat) := by
      unfold numF
      rw [List.getD_eq_getElem?_getD, List.getElem?_map, List.getElem?_range hi]
      simp [e2]
    rw [e, Nat.mul_one, Nat.add_zero]
    exact hc
theorem ints64 {H : Type} {enc : TypeId × Value → H} {w : World} {base : Nat} {spare : Nat → Bool} {held : Bool} {fuel : Nat} {A : Option Addr} {len cap : Nat} {x : DataW H × List MemPlace}
    (h : DataW.trod enc Try.prog w base spare held fuel 67 [.slice A len cap] = some x) :
    ∃ ls : List Int, ls.length = len ∧ (∀ x ∈ ls, -9223372036854775808 ≤ x ∧ x ≤ 9223372036854775807) ∧ Row w w.heap.size A len 1 (intF .i64 ls) ∧ len ≤ 9223372036854775807 ∧ Wf A len cap := by
  have hwf := wf_of Try.underlying67 h
  obtain ⟨h1, h2, h3⟩ := singles Try.underlying67 (by kernel_rfl) h
  have hcell : ∀ i, i < len → ∃ b off v, A = some ⟨b, off, none⟩ ∧ b < w.heap.size ∧ w.cell? ⟨b, off + i, none⟩ = some (.int .i64 v) ∧ (-9223372036854775808 ≤ v ∧ v ≤ 9223372036854775807) ∧ cellInt w A i = v := by
    intro i hi
    obtain ⟨b, off, rfl, hb, hc⟩ := h3 (by omega)
    obtain ⟨v0, y0, n0, c0, t0⟩ := hc i hi
    obtain ⟨x0, e0, _, w0⟩ := DataW.trod_int Try.underlying3 t0
    simp only [List.cons.injEq, and_true] at e0
    subst e0
    exact ⟨b, off, x0, rfl, hb, c0, bounds_i64 w0, cellInt_of c0⟩
  refine ⟨(List.range len).map fun i => cellInt w A i, by simp, ?_, ?_, by unfold maxLen at h2; omega, hwf⟩
  · intro t ht
    obtain ⟨i, hi, rfl⟩ := List.mem_map.1 ht
    obtain ⟨b, off, v, _, _, _, hv, e⟩ := hcell i (List.mem_range.1 hi)
    rw [e]; exact hv
  · intro hn
    obtain ⟨b, off, v, rfl, hb, _⟩ := hcell 0 hn
    refine ⟨b, off, rfl, hb, fun i j hi hj => ?_⟩
    obtain rfl : j = 0 := by omega
    obtain ⟨b', off', v', e1, _, hc, _, e2⟩ := hcell i hi
    injection e1 with e1
    injection e1 with e1 e3
    subst e1 e3
    have e : intF .i64 ((List.range len).map fun i => cellInt w (some ⟨b, off, none⟩) i) i 0 = .int .i64 v' := by
      unfold intF
      rw [List.getD_eq_getElem?_getD, List.getElem?_map, List.getElem?_range hi]
      simp [e2]
    rw [e, Nat.mul_one, Nat.add_zero]
    exact hc
end Go.Proofs.Ytdfpcnldfibceaa.Open

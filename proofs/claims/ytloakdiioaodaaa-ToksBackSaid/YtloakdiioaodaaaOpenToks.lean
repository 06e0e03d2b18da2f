/-
  How an argument that is a slice of tokens reads.
-/
import Derived.Test.YtloakdiioaodaaaOpen
import Derived.Test.YtloakdiioaodaaaToksCount
namespace Go.Proofs.Ytloakdiioaodaaa.Open
open Go.ChangeShapes Go.WideShapes Go.RowKit Go.Deep Go.Proofs.Ytloakdiioaodaaa.Mem Go.Proofs.Ytloakdiioaodaaa.Toks

def TkOk (t : Tk) : Prop := (0 ≤ t.lit ∧ t.lit ≤ 255) ∧ (-9223372036854775808 ≤ t.len ∧ t.len ≤ 9223372036854775807) ∧ (-9223372036854775808 ≤ t.dist ∧ t.dist ≤ 9223372036854775807)

theorem toks {H : Type} {enc : TypeId × Value → H} {w : World} {base : Nat} {spare : Nat → Bool} {held : Bool} {fuel : Nat} {A : Option Addr} {len cap : Nat} {x : DataW H × List MemPlace}
    (h : DataW.trod enc Try.prog w base spare held fuel 29 [.slice A len cap] = some x) :
    ∃ ts : List Tk, ts.length = len ∧ (∀ t ∈ ts, TkOk t) ∧ Row w w.heap.size A len 3 (tokF ts) ∧ len ≤ 9223372036854775807 := by
  obtain ⟨h1, h2, h3⟩ := structs Try.underlying29 Try.underlying56 (by kernel_rfl) (by kernel_rfl) (by decide) 3 rfl h
  refine ⟨(List.range len).map fun i => ⟨cellInt w A (i * 3), cellInt w A (i * 3 + 1), cellInt w A (i * 3 + 2)⟩, by simp, ?_, ?_, by unfold maxLen at h2; omega⟩
  · intro t ht
    obtain ⟨i, hi, rfl⟩ := List.mem_map.1 ht
    have hi := List.mem_range.1 hi
    obtain ⟨b, off, rfl, hb, hc⟩ := h3 (by omega)
    obtain ⟨v0, y0, n0, c0, t0⟩ := hc i hi 0 _ rfl
    obtain ⟨v1, y1, n1, c1, t1⟩ := hc i hi 1 _ rfl
    obtain ⟨v2, y2, n2, c2, t2⟩ := hc i hi 2 _ rfl
    obtain ⟨x0, e0, _, w0⟩ := DataW.trod_int Try.underlying5 t0
    obtain ⟨x1, e1, _, w1⟩ := DataW.trod_int Try.underlying3 t1
    obtain ⟨x2, e2, _, w2⟩ := DataW.trod_int Try.underlying3 t2
    simp only [List.cons.injEq, and_true] at e0 e1 e2
    subst e0 e1 e2
    rw [cellInt_of (k := i * 3) c0, cellInt_of c1, cellInt_of c2]
    exact ⟨bounds_u8 w0, bounds_i64 w1, bounds_i64 w2⟩
  · intro hn
    obtain ⟨b, off, rfl, hb, hc⟩ := h3 hn
    refine ⟨b, off, rfl, hb, fun i j hi hj => ?_⟩
    have hg : ((List.range len).map fun i => (⟨cellInt w (some ⟨b, off, none⟩) (i * 3), cellInt w (some ⟨b, off, none⟩) (i * 3 + 1), cellInt w (some ⟨b, off, none⟩) (i * 3 + 2)⟩ : Tk)).getD i tkd =
        ⟨cellInt w (some ⟨b, off, none⟩) (i * 3), cellInt w (some ⟨b, off, none⟩) (i * 3 + 1), cellInt w (some ⟨b, off, none⟩) (i * 3 + 2)⟩ := by
      simp [List.getD, hi]
    unfold tokF
    rw [hg]
    match j, hj with
    | 0, _ =>
      obtain ⟨v0, y0, n0, c0, t0⟩ := hc i hi 0 _ rfl
      obtain ⟨x0, e0, _, w0⟩ := DataW.trod_int Try.underlying5 t0
      simp only [List.cons.injEq, and_true] at e0
      subst e0
      rw [cellInt_of (k := i * 3) c0]
      exact c0
    | 1, _ =>
      obtain ⟨v0, y0, n0, c0, t0⟩ := hc i hi 1 _ rfl
      obtain ⟨x0, e0, _, w0⟩ := DataW.trod_int Try.underlying3 t0
      simp only [List.cons.injEq, and_true] at e0
      subst e0
      rw [cellInt_of c0]
      exact c0
    | 2, _ =>
      obtain ⟨v0, y0, n0, c0, t0⟩ := hc i hi 2 _ rfl
      obtain ⟨x0, e0, _, w0⟩ := DataW.trod_int Try.underlying3 t0
      simp only [List.cons.injEq, and_true] at e0
      subst e0
      rw [cellInt_of c0]
      exact c0
end Go.Proofs.Ytloakdiioaodaaa.Open

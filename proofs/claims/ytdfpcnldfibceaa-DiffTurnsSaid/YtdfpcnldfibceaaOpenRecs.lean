/-
  How an argument that is a log reads.
-/
import Derived.Test.YtdfpcnldfibceaaOpen
import Derived.Test.YtdfpcnldfibceaaRecPlain
import Derived.Test.YtdfpcnldfibceaaProg
import Derived.KernelRfl
namespace Go.Proofs.Ytdfpcnldfibceaa.Open
open Go.ChangeShapes Go.WideShapes Go.RowKit Go.Deep Go.Proofs.Ytdfpcnldfibceaa.Mem Go.Proofs.Ytdfpcnldfibceaa.Recs

theorem recs {H : Type} {enc : TypeId × Value → H} {w : World} {base : Nat} {spare : Nat → Bool} {held : Bool} {fuel : Nat} {A : Option Addr} {len cap : Nat} {x : DataW H × List MemPlace}
    (h : DataW.trod enc Try.prog w base spare held fuel 22 [.slice A len cap] = some x) :
    ∃ la : List Rec, la.length = len ∧ Row w w.heap.size A len 4 (recF la) ∧ len ≤ cap ∧ len ≤ 9223372036854775807 := by
  obtain ⟨h1, h2, h3⟩ := structs Try.underlying22 Try.underlying91 (by kernel_rfl) (by kernel_rfl) (by decide) 4 rfl h
  refine ⟨(List.range len).map fun i => ⟨cellInt w A (i * 4), cellInt w A (i * 4 + 1), cellStr w A (i * 4 + 2), cellStr w A (i * 4 + 3)⟩, by simp, ?_, h1, by unfold maxLen at h2; omega⟩
  intro hn
  obtain ⟨b, off, rfl, hb, hc⟩ := h3 hn
  refine ⟨b, off, rfl, hb, fun i j hi hj => ?_⟩
  have hg : ((List.range len).map fun i => (⟨cellInt w (some ⟨b, off, none⟩) (i * 4), cellInt w (some ⟨b, off, none⟩) (i * 4 + 1), cellStr w (some ⟨b, off, none⟩) (i * 4 + 2), cellStr w (some ⟨b, off, none⟩) (i * 4 + 3)⟩ : Rec)).getD i recd =
      ⟨cellInt w (some ⟨b, off, none⟩) (i * 4), cellInt w (some ⟨b, off, none⟩) (i * 4 + 1), cellStr w (some ⟨b, off, none⟩) (i * 4 + 2), cellStr w (some ⟨b, off, none⟩) (i * 4 + 3)⟩ := by
    simp [List.getD, hi]
  unfold recF
  rw [hg]
  match j, hj with
  | 0, _ =>
    obtain ⟨v0, y0, n0, c0, t0⟩ := hc i hi 0 _ rfl
    obtain ⟨x0, e0, _, w0⟩ := DataW.trod_int Try.underlying89 t0
    simp only [List.cons.injEq, and_true] at e0
    subst e0
    rw [cellInt_of (k := i * 4) c0]
    exact c0
  | 1, _ =>
    obtain ⟨v0, y0, n0, c0, t0⟩ := hc i hi 1 _ rfl
    obtain ⟨x0, e0, _, w0⟩ := DataW.trod_int Try.underlying5 t0
    simp only [List.cons.injEq, and_true] at e0
    subst e0
    rw [cellInt_of c0]
    exact c0
  | 2, _ =>
    obtain ⟨v0, y0, n0, c0, t0⟩ := hc i hi 2 _ rfl
    obtain ⟨x0, e0, _, w0⟩ := DataW.trod_string Try.underlying9 t0
    simp only [List.cons.injEq, and_true] at e0
    subst e0
    rw [cellStr_of c0]
    exact c0
  | 3, _ =>
    obtain ⟨v0, y0, n0, c0, t0⟩ := hc i hi 3 _ rfl
    obtain ⟨x0, e0, _, w0⟩ := DataW.trod_string Try.underlying9 t0
    simp only [List.cons.injEq, and_true] at e0
    subst e0
    rw [cellStr_of c0]
    exact c0
end Go.Proofs.Ytdfpcnldfibceaa.Open

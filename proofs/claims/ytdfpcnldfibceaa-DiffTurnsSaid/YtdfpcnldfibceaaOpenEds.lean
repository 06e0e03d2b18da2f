/-
  How an argument that is a row of edits reads; that a slice which is none has nothing.
-/
import Derived.Test.YtdfpcnldfibceaaOpenRecs
import Derived.Test.YtdfpcnldfibceaaEdits2
namespace Go.Proofs.Ytdfpcnldfibceaa.Open
open Go.ChangeShapes Go.WideShapes Go.RowKit Go.Deep Go.Proofs.Ytdfpcnldfibceaa.Mem Go.Proofs.Ytdfpcnldfibceaa.Recs Go.Proofs.Ytdfpcnldfibceaa.Diff

theorem slice_wf {H : Type} {enc : TypeId × Value → H} {P : Program} {w : World} {base : Nat} {spare : Nat → Bool} {held : Bool} {fuel : Nat} {t e : TypeId} {A : Option Addr} {len cap : Nat} {x : DataW H × List MemPlace} (ht : P.underlying t = some (.slice e))
    (h : DataW.trod enc P w base spare held fuel t [.slice A len cap] = some x) : Wf A len cap := by
  rcases open_slice ht h with ⟨h0, _⟩ | ⟨a, len', cap', m, n, D, Pl, hcs, hb, hl, hm, hmm, hx, hi⟩
  · simp at h0
    obtain ⟨rfl, rfl, rfl⟩ := h0
    exact Wf.nil
  · simp at hcs
    obtain ⟨rfl, rfl, rfl⟩ := hcs
    exact Wf.some hl

/-- The slice that lies in a cell. -/
def cellSl (w : World) (A : Option Addr) (k : Nat) : Option Addr × Nat × Nat :=
  match A with
  | some a => (match w.cell? ⟨a.block, a.off + k, none⟩ with | some (.slice B l c) => (B, l, c) | _ => (none, 0, 0))
  | none => (none, 0, 0)
theorem cellSl_of {w : World} {b off k : Nat} {B : Option Addr} {l c : Nat} (h : w.cell? ⟨b, off + k, none⟩ = some (.slice B l c)) : cellSl w (some ⟨b, off, none⟩) k = (B, l, c) := by
  simp [cellSl, h]

theorem slice_shape {H : Type} {enc : TypeId × Value → H} {P : Program} {w : World} {base : Nat} {spare : Nat → Bool} {held : Bool} {fuel : Nat} {t e : TypeId} {v : Value} {x : DataW H × List MemPlace} (ht : P.underlying t = some (.slice e))
    (h : DataW.trod enc P w base spare held fuel t [v] = some x) : ∃ B l c, v = .slice B l c := by
  rcases open_slice ht h with ⟨h0, _⟩ | ⟨a, len', cap', m, n, D, Pl, hcs, _⟩
  · simp at h0
    exact ⟨_, _, _, h0⟩
  · simp at hcs
    exact ⟨_, _, _, hcs⟩

/-- The records of a slice, by its cells. -/
def recsAt (w : World) (B : Option Addr) (l : Nat) : List Rec := (List.range l).map fun i => ⟨cellInt w B (i * 4), cellInt w B (i * 4 + 1), cellStr w B (i * 4 + 2), cellStr w B (i * 4 + 3)⟩

theorem eds {H : Type} {enc : TypeId × Value → H} {w : World} {base : Nat} {spare : Nat → Bool} {held : Bool} {fuel : Nat} {A : Option Addr} {len cap : Nat} {x : DataW H × List MemPlace}
    (h : DataW.trod enc Try.prog w base spare held fuel 25 [.slice A len cap] = some x) :
    ∃ es : List Ed, es.length = len ∧ EdRow w w.heap.size A es ∧ len ≤ 9223372036854775807 := by
  obtain ⟨h1, h2, h3⟩ := structs Try.underlying25 Try.underlying116 (by kernel_rfl) (by kernel_rfl) (by decide) 3 rfl h
  have key : ∀ i, ∃ e : Ed, i < len → ∃ b off, A = some ⟨b, off, none⟩ ∧ ∃ (R : Option Addr) (c : Nat), w.cell? ⟨b, off + i * 3, none⟩ = some (.int .i64 e.kind) ∧ w.cell? ⟨b, off + i * 3 + 1, none⟩ = some (.int .i64 e.n) ∧
      w.cell? ⟨b, off + i * 3 + 2, none⟩ = some (.slice R e.recs.length c) ∧ Row w w.heap.size R e.recs.length 4 (recF e.recs) ∧ Wf R e.recs.length c := by
    intro i
    by_cases hi : i < len
    · obtain ⟨b, off, rfl, hb, hc⟩ := h3 (by omega)
      obtain ⟨v0, y0, n0, c0, t0⟩ := hc i hi 0 _ rfl
      obtain ⟨v1, y1, n1, c1, t1⟩ := hc i hi 1 _ rfl
      obtain ⟨v2, y2, n2, c2, t2⟩ := hc i hi 2 _ rfl
      obtain ⟨x0, e0, _, w0⟩ := DataW.trod_int Try.underlying3 t0
      obtain ⟨x1, e1, _, w1⟩ := DataW.trod_int Try.underlying3 t1
      simp only [List.cons.injEq, and_true] at e0 e1
      subst e0 e1
      obtain ⟨R, l, c, rfl⟩ := slice_shape Try.underlying22 t2
      obtain ⟨la, hl, hrow, _⟩ := recs t2
      have hw := slice_wf Try.underlying22 t2
      subst hl
      exact ⟨⟨x0, x1, la⟩, fun _ => ⟨b, off, rfl, R, c, c0, c1, c2, hrow, hw⟩⟩
    · exact ⟨⟨0, 0, []⟩, fun h => absurd h hi⟩
  obtain ⟨f, hf⟩ := Classical.axiomOfChoice key
  refine ⟨(List.range len).map f, by simp, ?_, by unfold maxLen at h2; omega⟩
  intro hn
  have hn' : 0 < len := by simpa using hn
  obtain ⟨b, off, rfl, hb, hc⟩ := h3 hn'
  refine ⟨b, off, rfl, hb, fun i e he => ?_⟩
  obtain ⟨hi, hv⟩ := List.getElem?_eq_some_iff.1 he
  have hi' : i < len := by simpa using hi
  have hk := hf i hi'
  simp at hv
  rw [hv] at hk
  obtain ⟨b', off', e1, R, c, g0, g1, g2, g3, g4⟩ := hk
  injection e1 with e1
  injection e1 with e1 e2
  subst e1 e2
  exact ⟨R, c, g0, g1, g2, g3, g4⟩
end Go.Proofs.Ytdfpcnldfibceaa.Open

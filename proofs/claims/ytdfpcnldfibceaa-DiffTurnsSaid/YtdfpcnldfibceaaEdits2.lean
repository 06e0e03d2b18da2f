/-
  A row of edits that a call makes: its last edit's records grow, its number is one more; how it reads. No walk.
-/
import Derived.Test.YtdfpcnldfibceaaEdits
namespace Go.Proofs.Ytdfpcnldfibceaa.Diff
open Go.RowKit Go.Proofs.Ytdfpcnldfibceaa.Mem Go.Proofs.Ytdfpcnldfibceaa.Recs

theorem edCells_snoc {ini : List Ed} {ri : List Value} (h : ri.length = ini.length) (e : Ed) (rv : Value) : edCells (ini ++ [e]) (ri ++ [rv]) = edCells ini ri ++ [.int .i64 e.kind, .int .i64 e.n, rv] := by
  rw [edCells_append _ _ _ _ h]
  rfl
theorem set_behind (l : List Value) (a b c u : Value) (n : Nat) (h : l.length = n) : (l ++ [a, b, c]).set (n + 2) u = l ++ [a, b, u] ∧ (l ++ [a, b, c]).set (n + 1) u = l ++ [a, u, c] := by
  subst h
  constructor
  · rw [List.set_append_right _ _ (by omega), show l.length + 2 - l.length = 2 by omega]; rfl
  · rw [List.set_append_right _ _ (by omega), show l.length + 1 - l.length = 1 by omega]; rfl
theorem EdsAt.ri {w : World} {base : Nat} {v : Value} {ini : List Ed} {e : Ed} {ri : List Value} {rv : Value} (h : EdsAt w base v (ini ++ [e]) (ri ++ [rv])) : ri.length = ini.length := by
  have := h.len; simpa using this
theorem EdsAt.lastRecs {w : World} {base : Nat} {v : Value} {ini : List Ed} {e : Ed} {ri : List Value} {rv : Value} (h : EdsAt w base v (ini ++ [e]) (ri ++ [rv])) : OwnsRecs w base rv e.recs := by
  have hl := h.ri
  exact h.recs ini.length e rv (by simp) (by rw [← hl]; simp)
/-- The last edit's three cells. -/
theorem EdsAt.lastCells {w : World} {base g cap : Nat} {ini : List Ed} {e : Ed} {ri : List Value} {rv : Value} (h : EdsAt w base (.slice (some ⟨g, 0, none⟩) (ini.length + 1) cap) (ini ++ [e]) (ri ++ [rv])) :
    w.cell? ⟨g, ini.length * 3, none⟩ = some (.int .i64 e.kind) ∧ w.cell? ⟨g, ini.length * 3 + 1, none⟩ = some (.int .i64 e.n) ∧ w.cell? ⟨g, ini.length * 3 + 2, none⟩ = some rv := by
  have hl := h.ri
  have hown := h.own
  rw [edCells_snoc hl, show (ini ++ [e]).length = ini.length + 1 by simp] at hown
  have hz := edCells_length ini ri hl
  refine ⟨?_, ?_, ?_⟩
  · rw [hown.cellAt _ (by omega), List.getElem?_append_right (by omega), hz, Nat.sub_self]; rfl
  · rw [hown.cellAt _ (by omega), List.getElem?_append_right (by omega), hz, show ini.length * 3 + 1 - ini.length * 3 = 1 by omega]; rfl
  · rw [hown.cellAt _ (by omega), List.getElem?_append_right (by omega), hz, show ini.length * 3 + 2 - ini.length * 3 = 2 by omega]; rfl
theorem EdsAt.lastFree {w : World} {base g n cap : Nat} {es : List Ed} {rvs : List Value} (h : EdsAt w base (.slice (some ⟨g, 0, none⟩) n cap) es rvs) (hn : es.length = n) (j : Nat) : w.frozen? ⟨g, j, none⟩ = false := by
  have hown := h.own
  rw [hn] at hown
  exact hown.frozenAt j

theorem EdsAt.setRecs {w w1 : World} {base g cap : Nat} {ini : List Ed} {e : Ed} {ri : List Value} {rv rv' : Value} {l : List Rec}
    (h : EdsAt w base (.slice (some ⟨g, 0, none⟩) (ini.length + 1) cap) (ini ++ [e]) (ri ++ [rv]))
    (hrec : w1.ownsRow base 91 4 rv' (e.recs.length + l.length) (recsCells e.recs ++ recsCells l)) (hg : w.grownBy w1 rv.ownBlock)
    (hap : rv'.ownBlock = rv.ownBlock ∨ rv'.ownBlock = some w.heap.size) :
    EdsAt (w1.setCell ⟨g, ini.length * 3 + 2, none⟩ rv') base (.slice (some ⟨g, 0, none⟩) (ini.length + 1) cap) (ini ++ [⟨e.kind, e.n, e.recs ++ l⟩]) (ri ++ [rv']) := by
  have hl := h.ri
  have hlast := h.lastRecs
  have hgb : ∀ k, k = g → w1.heap[k]? = w.heap[k]? := by
    intro k hk
    refine hg.block k (by rw [hk]; exact (h.lt.1 g rfl).2) fun hr => ?_
    rcases own_apart hlast h.own (by decide) with h0 | h0
    · rw [h0] at hr; cases hr
    · exact h0 (by rw [← hr, hk]; rfl)
  have hown := h.own
  rw [edCells_snoc hl, show (ini ++ [e]).length = ini.length + 1 by simp] at hown
  have hown1 := own_kept hown (w' := w1) (fun k hk => hgb k (by simpa [Value.ownBlock] using hk.symm))
  have hst := hown1.stored (ini.length * 3 + 2) rv'
  rw [(set_behind _ _ _ _ _ _ (edCells_length ini ri hl)).1] at hst
  have hdiff : ∀ (x : Value) (n : Nat) (xs : List Value), w1.ownsRow base 91 4 x n xs → ∀ k, x.ownBlock = some k → k ≠ g := by
    intro x n xs hx k hk he
    rcases own_apart hx hown1 (by decide) with h0 | h0
    · rw [h0] at hk; cases hk
    · exact h0 (by rw [hk, he]; rfl)
  refine h.last (by rw [edCells_snoc hl]; exact hst.1) ?_ ?_ ?_
  · have := own_kept hrec (w' := w1.setCell ⟨g, ini.length * 3 + 2, none⟩ rv') (fun k hk => Below.heap_setCell w1 _ _ k (hdiff _ _ _ hrec k hk))
    unfold OwnsRecs
    rw [recsCells_append, List.length_append]
    exact this
  · intro x hx k hk
    have hxm : x ∈ ri ++ [rv] := List.mem_append_left _ hx
    obtain ⟨lx, hlx⟩ := h.recs_mem hxm
    have hkr : some k ≠ rv.ownBlock := by
      intro he
      obtain ⟨i, hi, hix⟩ := List.mem_iff_getElem.1 hx
      have hix' : (ri ++ [rv])[i]? = some x := by rw [List.getElem?_append_left hi, List.getElem?_eq_getElem hi, hix]
      have hv' : (ri ++ [rv])[ri.length]? = some rv := by simp
      rcases h.apart i ri.length x rv hix' hv' (by omega) with h0 | h0
      · rw [h0] at hk; cases hk
      · exact h0 (by rw [hk, he])
    have hkk := hg.block k (h.lt.2 x hxm k hk).2 hkr
    have hx1 := own_kept hlx (w' := w1) (fun k' hk' => by rw [hk] at hk'; injection hk' with e; rw [← e]; exact hkk)
    exact (Below.heap_setCell w1 _ _ k (hdiff _ _ _ hx1 k hk)).trans hkk
  · rcases hap with h0 | h0
    · exact .inl h0
    · exact .inr ⟨_, h0, Nat.le_refl _⟩

theorem EdsAt.setN {w : World} {base g cap : Nat} {ini : List Ed} {e : Ed} {ri : List Value} {rv : Value} {n : Int} (h : EdsAt w base (.slice (some ⟨g, 0, none⟩) (ini.length + 1) cap) (ini ++ [e]) (ri ++ [rv])) :
    EdsAt (w.setCell ⟨g, ini.length * 3 + 1, none⟩ (.int .i64 n)) base (.slice (some ⟨g, 0, none⟩) (ini.length + 1) cap) (ini ++ [⟨e.kind, n, e.recs⟩]) (ri ++ [rv]) := by
  have hl := h.ri
  have hlast := h.lastRecs
  have hown := h.own
  rw [edCells_snoc hl, show (ini ++ [e]).length = ini.length + 1 by simp] at hown
  have hst := hown.stored (ini.length * 3 + 1) (.int .i64 n)
  rw [(set_behind _ _ _ _ _ _ (edCells_length ini ri hl)).2] at hst
  have hdiff : ∀ x ∈ ri ++ [rv], ∀ k, x.ownBlock = some k → (w.setCell ⟨g, ini.length * 3 + 1, none⟩ (.int .i64 n)).heap[k]? = w.heap[k]? := by
    intro x hx k hk
    obtain ⟨lx, hlx⟩ := h.recs_mem hx
    refine Below.heap_setCell w _ _ k fun he => ?_
    rcases own_apart hlx hown (by decide) with h0 | h0
    · rw [h0] at hk; cases hk
    · exact h0 (by rw [hk, he]; rfl)
  refine h.last (by rw [edCells_snoc hl]; exact hst.1) (own_kept hlast (hdiff rv (by simp))) (fun x hx => hdiff x (by simp [hx])) (.inl rfl)

/-- Edits as they lie in memory below block B, for reading. -/
def EdRow (w : World) (B : Nat) (A : Option Addr) (es : List Ed) : Prop :=
  0 < es.length → ∃ b off, A = some ⟨b, off, none⟩ ∧ b < B ∧ ∀ i e, es[i]? = some e → ∃ (R : Option Addr) (c : Nat), w.cell? ⟨b, off + i * 3, none⟩ = some (.int .i64 e.kind) ∧ w.cell? ⟨b, off + i * 3 + 1, none⟩ = some (.int .i64 e.n) ∧
    w.cell? ⟨b, off + i * 3 + 2, none⟩ = some (.slice R e.recs.length c) ∧ Row w B R e.recs.length 4 (recF e.recs) ∧ Wf R e.recs.length c
theorem EdRow.keep {w w' : World} {B : Nat} {A : Option Addr} {es : List Ed} (h : EdRow w B A es) (hk : ∀ p : Addr, p.block < B → w'.cell? p = w.cell? p) : EdRow w' B A es := fun hn => by
  obtain ⟨b, off, e, hb, hc⟩ := h hn
  refine ⟨b, off, e, hb, fun i x hx => ?_⟩
  obtain ⟨R, c, c0, c1, c2, hr, hw⟩ := hc i x hx
  exact ⟨R, c, (hk _ hb).trans c0, (hk _ hb).trans c1, (hk _ hb).trans c2, hr.keep hk, hw⟩
theorem EdRow.below {w w' : World} {B : Nat} {A : Option Addr} {es : List Ed} (h : EdRow w B A es) (hb : Below B w w') : EdRow w' B A es := h.keep fun _ hp => hb.cell hp
theorem EdRow.mono {w : World} {B B' : Nat} {A : Option Addr} {es : List Ed} (h : EdRow w B A es) (hB : B ≤ B') : EdRow w B' A es := fun hn => by
  obtain ⟨b, off, e, hb, hc⟩ := h hn
  refine ⟨b, off, e, by omega, fun i x hx => ?_⟩
  obtain ⟨R, c, c0, c1, c2, hr, hw⟩ := hc i x hx
  exact ⟨R, c, c0, c1, c2, hr.mono hB, hw⟩
theorem EdRow.drewN {w : World} {B : Nat} {A : Option Addr} {es : List Ed} (h : EdRow w B A es) (k : Nat) : EdRow (w.drewN k) B A es := h
theorem EdRow.nil {w : World} {B : Nat} {A : Option Addr} : EdRow w B A [] := fun h => absurd h (by simp)

theorem recsCells_get (l : List Rec) : ∀ i j, i < l.length → j < 4 → (recsCells l)[i * 4 + j]? = some (recF l i j) := by
  induction l with
  | nil => intro i j h _; simp at h
  | cons r l ih =>
    intro i j hi hj
    cases i with
    | zero =>
      have : j = 0 ∨ j = 1 ∨ j = 2 ∨ j = 3 := by omega
      rcases this with rfl | rfl | rfl | rfl <;> rfl
    | succ i =>
      have h := ih i j (by simpa using hi) hj
      have e1 : (recsCells (r :: l))[(i + 1) * 4 + j]? = (recsCells l)[i * 4 + j]? := by
        simp only [recsCells, List.flatMap_cons]
        rw [List.getElem?_append_right (by simp [Rec.cells]; omega)]
        congr 1
        simp [Rec.cells]
        omega
      rw [e1, h]
      simp [recF]
theorem own_wf {w : World} {base : Nat} {e : TypeId} {s n : Nat} {A : Option Addr} {c : Nat} {xs : List Value} (h : w.ownsRow base e s (.slice A n c) n xs) : Wf A n c := by
  rcases h.2 with ⟨hv, hx⟩ | ⟨g, cap, cur, hv, _, _, h1, _⟩
  · injection hv with e1 e2 e3
    subst e1 e2 e3
    exact Wf.nil
  · injection hv with e1 e2 e3
    subst e1 e3
    exact Wf.some h1
theorem OwnsRecs.row {w : World} {base : Nat} {rv : Value} {l : List Rec} (h : OwnsRecs w base rv l) : ∃ R c, rv = .slice R l.length c ∧ Row w w.heap.size R l.length 4 (recF l) ∧ Wf R l.length c := by
  obtain ⟨R, c, rfl⟩ := own_shape h
  exact ⟨R, c, rfl, Row.of_own h rfl (recsCells_get l), own_wf h⟩

theorem edCells_get : ∀ (es : List Ed) (rvs : List Value) (i : Nat) (e : Ed) (rv : Value), rvs.length = es.length → es[i]? = some e → rvs[i]? = some rv →
    (edCells es rvs)[i * 3]? = some (.int .i64 e.kind) ∧ (edCells es rvs)[i * 3 + 1]? = some (.int .i64 e.n) ∧ (edCells es rvs)[i * 3 + 2]? = some rv
  | [], _, i, e, rv, _, he, _ => by simp at he
  | x :: es, [], i, e, rv, h, _, _ => by simp at h
  | x :: es, y :: rvs, 0, e, rv, _, he, hv => by
    simp at he hv
    subst he hv
    exact ⟨rfl, rfl, rfl⟩
  | x :: es, y :: rvs, i + 1, e, rv, h, he, hv => by
    have := edCells_get es rvs i e rv (by simpa using h) (by simpa using he) (by simpa using hv)
    simp only [edCells, show (i + 1) * 3 = i * 3 + 3 by omega, show i * 3 + 3 + 1 = i * 3 + 1 + 3 by omega, show i * 3 + 3 + 2 = i * 3 + 2 + 3 by omega, List.getElem?_cons_succ]
    exact this
theorem EdsAt.row {w : World} {base : Nat} {v : Value} {es : List Ed} {rvs : List Value} (h : EdsAt w base v es rvs) : ∃ A c, v = .slice A es.length c ∧ EdRow w w.heap.size A es := by
  obtain ⟨A, c, rfl⟩ := own_shape h.own
  refine ⟨A, c, rfl, fun hn => ?_⟩
  obtain ⟨g, cap, hv⟩ : ∃ g cap, Value.slice A es.length c = .slice (some ⟨g, 0, none⟩) es.length cap := by
    rcases h.own.2 with ⟨_, h0⟩ | ⟨g, cap, cur, hv, _⟩
    · rw [h0] at hn; simp at hn
    · exact ⟨g, cap, hv⟩
  injection hv with e1 e2 e3
  subst e1
  have hown := h.own
  refine ⟨g, 0, rfl, (h.lt.1 g rfl).2, fun i e he => ?_⟩
  have hi : i < es.length := (List.getElem?_eq_some_iff.1 he).1
  have hiv : i < rvs.length := by rw [h.len]; exact hi
  have hrv := List.getElem?_eq_getElem hiv
  obtain ⟨R, cc, hR, hrow, hwf⟩ := (h.recs i e _ he hrv).row
  obtain ⟨k0, k1, k2⟩ := edCells_get es rvs i e _ h.len he hrv
  refine ⟨R, cc, ?_, ?_, ?_, hrow, hwf⟩
  · rw [Nat.zero_add, hown.cellAt _ (by omega)]; exact k0
  · rw [Nat.zero_add, hown.cellAt _ (by omega)]; exact k1
  · rw [Nat.zero_add, hown.cellAt _ (by omega), k2, hR]
end Go.Proofs.Ytdfpcnldfibceaa.Diff

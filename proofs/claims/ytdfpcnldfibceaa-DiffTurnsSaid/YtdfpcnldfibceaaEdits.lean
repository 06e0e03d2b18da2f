/-
  A row of edits that a call makes: what it owns, and what each step does to it. No walk.
-/
import Derived.Test.YtdfpcnldfibceaaApp
import Derived.Test.YtdfpcnldfibceaaDiffPlain
import Derived.Test.YtdfpcnldfibceaaProg
namespace Go.Proofs.Ytdfpcnldfibceaa.Diff
open Go.RowKit Go.Proofs.Ytdfpcnldfibceaa.Mem Go.Proofs.Ytdfpcnldfibceaa.Recs

theorem own_kept {w w' : World} {base : Nat} {e : TypeId} {s n : Nat} {v : Value} {xs : List Value} (h : w.ownsRow base e s v n xs) (hk : ∀ g, v.ownBlock = some g → w'.heap[g]? = w.heap[g]?) :
    w'.ownsRow base e s v n xs := by
  refine ⟨h.1, ?_⟩
  rcases h.2 with h0 | ⟨g, cap, cur, rfl, hb, hg, rest⟩
  · exact .inl h0
  · exact .inr ⟨g, cap, cur, rfl, hb, (hk g rfl).trans hg, rest⟩
theorem own_blk {w : World} {base : Nat} {e t : TypeId} {s n g : Nat} {v : Value} {xs : List Value} {cs : Array Value} (h : w.ownsRow base e s v n xs) (hb : Blk w g t cs) (hne : e ≠ t) : v.ownBlock ≠ some g := by
  intro hv
  rcases h.2 with ⟨rfl, _⟩ | ⟨g', cap, cur, rfl, _, hg, _⟩
  · simp [Value.ownBlock] at hv
  · simp [Value.ownBlock] at hv
    subst hv
    exact Blk.apart (t := e) hg hb hne rfl
theorem own_apart {w : World} {base base' : Nat} {e e' : TypeId} {s s' n n' : Nat} {v v' : Value} {xs xs' : List Value} (h : w.ownsRow base e s v n xs) (h' : w.ownsRow base' e' s' v' n' xs') (hne : e ≠ e') :
    v.ownBlock = none ∨ v.ownBlock ≠ v'.ownBlock := by
  rcases h.2 with ⟨rfl, _⟩ | ⟨g, cap, cur, rfl, _, hg, _⟩
  · exact .inl rfl
  · refine .inr fun hv => ?_
    exact own_blk h' (g := g) (t := e) hg (Ne.symm hne) hv.symm

def recsCells (l : List Rec) : List Value := l.flatMap Rec.cells
theorem recsCells_append (a b : List Rec) : recsCells (a ++ b) = recsCells a ++ recsCells b := by simp [recsCells]
theorem recsCells_length (l : List Rec) : (recsCells l).length = l.length * 4 := by
  induction l with
  | nil => rfl
  | cons r l ih => simp only [recsCells, List.flatMap_cons, List.length_append, Rec.cells, List.length_cons, List.length_nil] at ih ⊢; omega
theorem recsCells_one (l : List Rec) : ∀ u ∈ recsCells l, u.oneCell' = true := by
  intro u hu
  obtain ⟨r, _, hr⟩ := List.mem_flatMap.1 hu
  simp only [Rec.cells, List.mem_cons, List.not_mem_nil, or_false] at hr
  rcases hr with rfl | rfl | rfl | rfl <;> rfl
def OwnsRecs (w : World) (base : Nat) (rv : Value) (l : List Rec) : Prop := w.ownsRow base 91 4 rv l.length (recsCells l)

def edCells : List Ed → List Value → List Value
  | e :: es, rv :: rvs => .int .i64 e.kind :: .int .i64 e.n :: rv :: edCells es rvs
  | _, _ => []
theorem edCells_append : ∀ (es : List Ed) (rvs : List Value) (es' : List Ed) (rvs' : List Value), rvs.length = es.length → edCells (es ++ es') (rvs ++ rvs') = edCells es rvs ++ edCells es' rvs'
  | [], [], _, _, _ => by simp [edCells]
  | [], _ :: _, _, _, h => by simp at h
  | _ :: _, [], _, _, h => by simp at h
  | e :: es, rv :: rvs, es', rvs', h => by
    simp only [List.cons_append, edCells]
    rw [edCells_append es rvs es' rvs' (by simpa using h)]
theorem edCells_length : ∀ (es : List Ed) (rvs : List Value), rvs.length = es.length → (edCells es rvs).length = es.length * 3
  | [], [], _ => rfl
  | [], _ :: _, h => by simp at h
  | _ :: _, [], h => by simp at h
  | e :: es, rv :: rvs, h => by
    simp only [edCells, List.length_cons]
    rw [edCells_length es rvs (by simpa using h)]
    omega

/-- The slice value v owns the edits es, whose records' slices are rvs, each one's memory apart from all others'. -/
structure EdsAt (w : World) (base : Nat) (v : Value) (es : List Ed) (rvs : List Value) : Prop where
  len : rvs.length = es.length
  own : w.ownsRow base 116 3 v es.length (edCells es rvs)
  recs : ∀ (i : Nat) (e : Ed) (rv : Value), es[i]? = some e → rvs[i]? = some rv → OwnsRecs w base rv e.recs
  apart : ∀ (i j : Nat) (rv rv' : Value), rvs[i]? = some rv → rvs[j]? = some rv' → i ≠ j → rv.ownBlock = none ∨ rv.ownBlock ≠ rv'.ownBlock

theorem EdsAt.none_ (w : World) (base : Nat) : EdsAt w base (.slice none 0 0) [] [] :=
  ⟨rfl, World.ownsRow_nil _ _ _ _, fun i e rv h _ => by simp at h, fun i j rv rv' h _ _ => by simp at h⟩
theorem EdsAt.kept {w w' : World} {base : Nat} {v : Value} {es : List Ed} {rvs : List Value} (h : EdsAt w base v es rvs) (hk : ∀ g, v.ownBlock = some g → w'.heap[g]? = w.heap[g]?)
    (hr : ∀ rv ∈ rvs, ∀ g, rv.ownBlock = some g → w'.heap[g]? = w.heap[g]?) : EdsAt w' base v es rvs :=
  ⟨h.len, own_kept h.own hk, fun i e rv he hv => own_kept (h.recs i e rv he hv) (hr rv (List.mem_of_getElem? hv)), h.apart⟩
theorem EdsAt.recs_mem {w : World} {base : Nat} {v : Value} {es : List Ed} {rvs : List Value} (h : EdsAt w base v es rvs) {rv : Value} (hm : rv ∈ rvs) : ∃ e, OwnsRecs w base rv e := by
  obtain ⟨i, hi, hv⟩ := List.mem_iff_getElem.1 hm
  have hie : i < es.length := by rw [← h.len]; exact hi
  exact ⟨_, h.recs i es[i] rv (List.getElem?_eq_getElem hie) (by rw [List.getElem?_eq_getElem hi, hv])⟩
/-- Kept where no block from base on but one of another type turns. -/
theorem EdsAt.lt {w : World} {base : Nat} {v : Value} {es : List Ed} {rvs : List Value} (h : EdsAt w base v es rvs) :
    (∀ g, v.ownBlock = some g → base ≤ g ∧ g < w.heap.size) ∧ ∀ rv ∈ rvs, ∀ g, rv.ownBlock = some g → base ≤ g ∧ g < w.heap.size :=
  ⟨fun g hg => h.own.lt g hg, fun rv hm g hg => by obtain ⟨l, hl⟩ := h.recs_mem hm; exact World.ownsRow.lt hl g hg⟩
theorem EdsAt.alloc {w : World} {base : Nat} {v : Value} {es : List Ed} {rvs : List Value} (h : EdsAt w base v es rvs) (o : Obj) : EdsAt (w.alloc o) base v es rvs :=
  h.kept (fun g hg => Below.heap_alloc w o g (h.lt.1 g hg).2) (fun rv hm g hg => Below.heap_alloc w o g (h.lt.2 rv hm g hg).2)
theorem EdsAt.drewN {w : World} {base : Nat} {v : Value} {es : List Ed} {rvs : List Value} (h : EdsAt w base v es rvs) (k : Nat) : EdsAt (w.drewN k) base v es rvs :=
  h.kept (fun _ _ => rfl) (fun _ _ _ _ => rfl)
theorem EdsAt.step {w w' : World} {base : Nat} {v : Value} {es : List Ed} {rvs : List Value} (h : EdsAt w base v es rvs) (hb : Below w.heap.size w w') : EdsAt w' base v es rvs :=
  h.kept (fun g hg => hb.block g (h.lt.1 g hg).2) (fun rv hm g hg => hb.block g (h.lt.2 rv hm g hg).2)
/-- A store into a block of another type. -/
theorem EdsAt.other {w : World} {base : Nat} {v : Value} {es : List Ed} {rvs : List Value} (h : EdsAt w base v es rvs) {g : Nat} {t : TypeId} {cs : Array Value} (hb : Blk w g t cs)
    (h1 : 116 ≠ t) (h2 : 91 ≠ t) (i : Nat) (u : Value) : EdsAt (w.setCell ⟨g, i, none⟩ u) base v es rvs :=
  h.kept (fun k hk => Below.heap_setCell w _ u k (fun e => own_blk h.own hb h1 (by rw [hk, e])))
    (fun rv hm k hk => Below.heap_setCell w _ u k (fun e => by obtain ⟨l, hl⟩ := h.recs_mem hm; exact own_blk hl hb h2 (by rw [hk, e])))

/-- A new edit is appended. -/
theorem EdsAt.push {w w' : World} {base : Nat} {v v' : Value} {es : List Ed} {rvs : List Value} (h : EdsAt w base v es rvs) {kind : Int}
    (hown : w'.ownsRow base 116 3 v' (es.length + 1) (edCells es rvs ++ [.int .i64 kind, .int .i64 0, .slice none 0 0])) (hg : w.grownBy w' v.ownBlock) :
    EdsAt w' base v' (es ++ [⟨kind, 0, []⟩]) (rvs ++ [.slice none 0 0]) := by
  have hkeep : ∀ rv ∈ rvs, ∀ g, rv.ownBlock = some g → w'.heap[g]? = w.heap[g]? := by
    intro rv hm g hgv
    obtain ⟨l, hl⟩ := h.recs_mem hm
    refine hg.block g (h.lt.2 rv hm g hgv).2 ?_
    rcases own_apart hl h.own (by decide) with h0 | h0
    · rw [h0] at hgv; cases hgv
    · rw [← hgv]; exact h0
  have hlen := h.len
  refine ⟨by simp [h.len], by rw [edCells_append _ _ _ _ h.len, List.length_append]; exact hown, fun i e rv he hv => ?_, fun i j rv rv' hi hj hne => ?_⟩
  · rw [List.getElem?_append] at he hv
    split at he
    · rename_i hlt
      rw [if_pos (by omega)] at hv
      exact own_kept (h.recs i e rv he hv) (hkeep rv (List.mem_of_getElem? hv))
    · rename_i hge
      rw [if_neg (by omega)] at hv
      have e1 : e = ⟨kind, 0, []⟩ := by
        have := List.mem_of_getElem? he
        simpa using this
      have e2 : rv = .slice none 0 0 := by
        have := List.mem_of_getElem? hv
        simpa using this
      subst e1 e2
      exact World.ownsRow_nil _ _ _ _
  · rw [List.getElem?_append] at hi hj
    split at hi
    · split at hj
      · exact h.apart i j rv rv' hi hj hne
      · have e2 : rv' = .slice none 0 0 := by
          have := List.mem_of_getElem? hj
          simpa using this
        subst e2
        cases hb : rv.ownBlock
        · exact .inl rfl
        · exact .inr (by simp [Value.ownBlock])
    · have e2 : rv = .slice none 0 0 := by
        have := List.mem_of_getElem? hi
        simpa using this
      subst e2
      exact .inl rfl

theorem get_last {α : Type} (l : List α) (a : α) (i : Nat) (x : α) (h : (l ++ [a])[i]? = some x) : (i < l.length ∧ l[i]? = some x) ∨ (i = l.length ∧ x = a) := by
  rw [List.getElem?_append] at h
  split at h
  · exact .inl ⟨‹_›, h⟩
  · have hm := List.mem_of_getElem? h
    have hi : i - l.length < [a].length := (List.getElem?_eq_some_iff.1 h).1
    simp at hm hi
    exact .inr ⟨by omega, hm⟩

/-- Of the last edit the records' slice is another one, or its number is. -/
theorem EdsAt.last {w w' : World} {base g cap : Nat} {es : List Ed} {rvs : List Value} {e e' : Ed} {rv rv' : Value} (h : EdsAt w base (.slice (some ⟨g, 0, none⟩) (es.length + 1) cap) (es ++ [e]) (rvs ++ [rv]))
    (hown : w'.ownsRow base 116 3 (.slice (some ⟨g, 0, none⟩) (es.length + 1) cap) (es.length + 1) (edCells (es ++ [e']) (rvs ++ [rv'])))
    (hrec : OwnsRecs w' base rv' e'.recs) (hold : ∀ x ∈ rvs, ∀ k, x.ownBlock = some k → w'.heap[k]? = w.heap[k]?)
    (hap : rv'.ownBlock = rv.ownBlock ∨ ∃ k, rv'.ownBlock = some k ∧ w.heap.size ≤ k) : EdsAt w' base (.slice (some ⟨g, 0, none⟩) (es.length + 1) cap) (es ++ [e']) (rvs ++ [rv']) := by
  have hl : rvs.length = es.length := by have := h.len; simpa using this
  have old : ∀ (i : Nat) (x : Value), rvs[i]? = some x → (x.ownBlock = none ∨ x.ownBlock ≠ rv'.ownBlock) ∧ (rv'.ownBlock = none ∨ rv'.ownBlock ≠ x.ownBlock) := by
    intro i x hx
    have hi : i < rvs.length := (List.getElem?_eq_some_iff.1 hx).1
    have hx' : (rvs ++ [rv])[i]? = some x := by rw [List.getElem?_append, if_pos hi]; exact hx
    have hv' : (rvs ++ [rv])[rvs.length]? = some rv := by simp
    rcases hap with hs | ⟨k, hk, hkw⟩
    · rw [hs]
      exact ⟨h.apart i rvs.length x rv hx' hv' (by omega), h.apart rvs.length i rv x hv' hx' (by omega)⟩
    · rw [hk]
      have hlt := fun k' hk' => (h.lt.2 x (List.mem_of_getElem? hx') k' hk').2
      cases hb : x.ownBlock with
      | none => exact ⟨.inl rfl, .inr (by simp)⟩
      | some k' =>
        have := hlt k' hb
        exact ⟨.inr (by simp; omega), .inr (by simp; omega)⟩
  refine ⟨by simp [hl], by simpa using hown, fun i x y hx hy => ?_, fun i j x y hx hy hne => ?_⟩
  · rcases get_last _ _ _ _ hx with ⟨hi, hx2⟩ | ⟨hi, rfl⟩
    · rcases get_last _ _ _ _ hy with ⟨hj, hy2⟩ | ⟨hj, rfl⟩
      · refine own_kept (h.recs i x y (by rw [List.getElem?_append, if_pos hi]; exact hx2) (by rw [List.getElem?_append, if_pos hj]; exact hy2)) (hold y (List.mem_of_getElem? hy2))
      · omega
    · rcases get_last _ _ _ _ hy with ⟨hj, hy2⟩ | ⟨hj, rfl⟩
      · omega
      · exact hrec
  · rcases get_last _ _ _ _ hx with ⟨hi, hx2⟩ | ⟨hi, rfl⟩
    · rcases get_last _ _ _ _ hy with ⟨hj, hy2⟩ | ⟨hj, rfl⟩
      · exact h.apart i j x y (by rw [List.getElem?_append, if_pos hi]; exact hx2) (by rw [List.getElem?_append, if_pos hj]; exact hy2) hne
      · exact (old i x hx2).1
    · rcases get_last _ _ _ _ hy with ⟨hj, hy2⟩ | ⟨hj, rfl⟩
      · exact (old j y hy2).2
      · omega
end Go.Proofs.Ytdfpcnldfibceaa.Diff

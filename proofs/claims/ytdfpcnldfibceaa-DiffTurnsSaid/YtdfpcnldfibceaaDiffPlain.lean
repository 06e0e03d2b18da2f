/-
  The longest rows in common of two logs, and the edits from one to the other: plain functions and their laws.
-/
import Derived.Test.YtdfpcnldfibceaaRecPlain
namespace Go.Proofs.Ytdfpcnldfibceaa.Diff
open Go.Proofs.Ytdfpcnldfibceaa.Recs

/-- How long the longest row in common is. -/
def lcs : List Rec → List Rec → Nat
  | [], _ => 0
  | _ :: _, [] => 0
  | x :: xs, y :: ys => if x = y then lcs xs ys + 1 else max (lcs xs (y :: ys)) (lcs (x :: xs) ys)
  termination_by a b => a.length + b.length

theorem lcs_nil_left (b : List Rec) : lcs [] b = 0 := by rw [lcs]
theorem lcs_nil_right (a : List Rec) : lcs a [] = 0 := by cases a <;> rw [lcs]
theorem lcs_cons (x y : Rec) (xs ys : List Rec) : lcs (x :: xs) (y :: ys) = if x = y then lcs xs ys + 1 else max (lcs xs (y :: ys)) (lcs (x :: xs) ys) := by rw [lcs]

/-- There is a row in common that is so long. -/
theorem lcs_row (a b : List Rec) : ∃ r : List Rec, r.Sublist a ∧ r.Sublist b ∧ r.length = lcs a b := by
  induction a, b using lcs.induct with
  | case1 b => exact ⟨[], List.nil_sublist _, List.nil_sublist _, by rw [lcs_nil_left]; rfl⟩
  | case2 x xs => exact ⟨[], List.nil_sublist _, List.nil_sublist _, by rw [lcs_nil_right]; rfl⟩
  | case3 xs y ys ih =>
    obtain ⟨r, h1, h2, h3⟩ := ih
    exact ⟨y :: r, h1.cons_cons y, h2.cons_cons y, by rw [lcs_cons, if_pos rfl]; simp [h3]⟩
  | case4 x xs y ys hne ih1 ih2 =>
    rw [lcs_cons, if_neg hne]
    obtain ⟨r, h1, h2, h3⟩ := ih1
    obtain ⟨s, k1, k2, k3⟩ := ih2
    rcases Nat.le_total (lcs (x :: xs) ys) (lcs xs (y :: ys)) with h | h
    · exact ⟨r, h1.cons x, h2, by rw [h3, Nat.max_eq_left h]⟩
    · exact ⟨s, k1, k2.cons y, by rw [k3, Nat.max_eq_right h]⟩

/-- None is longer. -/
theorem lcs_max (a b : List Rec) : ∀ r : List Rec, r.Sublist a → r.Sublist b → r.length ≤ lcs a b := by
  induction a, b using lcs.induct with
  | case1 b => intro r h1 _; have := List.sublist_nil.1 h1; subst this; simp
  | case2 x xs => intro r _ h2; have := List.sublist_nil.1 h2; subst this; simp
  | case3 xs y ys ih =>
    intro r h1 h2
    rw [lcs_cons, if_pos rfl]
    have t1 : r.tail.Sublist xs := by
      cases h1 with
      | cons _ h => exact (List.tail_sublist r).trans h
      | cons_cons _ h => exact h
    have t2 : r.tail.Sublist ys := by
      cases h2 with
      | cons _ h => exact (List.tail_sublist r).trans h
      | cons_cons _ h => exact h
    have := ih r.tail t1 t2
    rw [List.length_tail] at this
    omega
  | case4 x xs y ys hne ih1 ih2 =>
    intro r h1 h2
    rw [lcs_cons, if_neg hne]
    cases h1 with
    | cons _ h => exact Nat.le_trans (ih1 r h h2) (Nat.le_max_left _ _)
    | cons_cons _ h =>
      cases h2 with
      | cons _ h' => exact Nat.le_trans (ih2 _ (h.cons_cons x) h') (Nat.le_max_right _ _)
      | cons_cons _ h' => exact absurd rfl hne

theorem lcs_reverse (a b : List Rec) : lcs a.reverse b.reverse = lcs a b := by
  apply Nat.le_antisymm
  · obtain ⟨r, h1, h2, h3⟩ := lcs_row a.reverse b.reverse
    rw [← h3, ← List.length_reverse]
    exact lcs_max a b _ (by simpa using h1.reverse) (by simpa using h2.reverse)
  · obtain ⟨r, h1, h2, h3⟩ := lcs_row a b
    rw [← h3, ← List.length_reverse]
    exact lcs_max _ _ _ h1.reverse h2.reverse

/-- The same from behind: of two lists that grow at their ends. -/
theorem lcs_snoc (a b : List Rec) (x y : Rec) : lcs (a ++ [x]) (b ++ [y]) = if x = y then lcs a b + 1 else max (lcs a (b ++ [y])) (lcs (a ++ [x]) b) := by
  rw [← lcs_reverse (a ++ [x]), ← lcs_reverse a b, ← lcs_reverse a (b ++ [y]), ← lcs_reverse (a ++ [x]) b]
  simp only [List.reverse_append, List.reverse_cons, List.reverse_nil, List.nil_append, List.singleton_append]
  exact lcs_cons x y _ _

theorem lcs_le_left (a b : List Rec) : lcs a b ≤ a.length := by
  obtain ⟨r, h1, _, h3⟩ := lcs_row a b
  rw [← h3]; exact h1.length_le
theorem lcs_le_right (a b : List Rec) : lcs a b ≤ b.length := by
  obtain ⟨r, _, h2, h3⟩ := lcs_row a b
  rw [← h3]; exact h2.length_le

/-! ### Edits -/
structure Ed where
  kind : Int
  n : Int
  recs : List Rec

/-- One step more, behind the edits that there are. -/
def addE : List Ed → Int → List Rec → List Ed
  | [], kind, l => [⟨kind, if kind = 3 then 0 else 1, l⟩]
  | [e], kind, l => if e.kind = kind then [⟨kind, if kind = 3 then e.n else e.n + 1, e.recs ++ l⟩] else [e, ⟨kind, if kind = 3 then 0 else 1, l⟩]
  | e :: f :: es, kind, l => e :: addE (f :: es) kind l

/-- The last edit, if there is one, is of this kind. -/
def lastIs : List Ed → Int → Bool
  | [], _ => false
  | [e], kind => decide (e.kind = kind)
  | _ :: f :: es, kind => lastIs (f :: es) kind
theorem addE_new : ∀ (es : List Ed) (kind : Int) (l : List Rec), lastIs es kind = false → addE es kind l = es ++ [⟨kind, if kind = 3 then 0 else 0 + 1, [] ++ l⟩]
  | [], kind, l, _ => by simp [addE]
  | [e], kind, l, h => by
    have : ¬ e.kind = kind := by simpa [lastIs] using h
    simp [addE, this]
  | e :: f :: es, kind, l, h => by
    rw [addE, addE_new (f :: es) kind l (by simpa [lastIs] using h)]
    rfl
theorem addE_same : ∀ (es : List Ed) (e : Ed) (kind : Int) (l : List Rec), e.kind = kind → addE (es ++ [e]) kind l = es ++ [⟨kind, if kind = 3 then e.n else e.n + 1, e.recs ++ l⟩]
  | [], e, kind, l, h => by simp [addE, h]
  | [f], e, kind, l, h => by
    show addE (f :: e :: []) kind l = _
    rw [addE, addE, if_pos h]
    rfl
  | f :: g :: es, e, kind, l, h => by
    show addE (f :: g :: (es ++ [e])) kind l = _
    rw [addE]
    have := addE_same (g :: es) e kind l h
    rw [List.cons_append] at this
    rw [this]
    rfl
theorem lastIs_snoc : ∀ (es : List Ed) (e : Ed) (kind : Int), lastIs (es ++ [e]) kind = decide (e.kind = kind)
  | [], e, kind => rfl
  | [f], e, kind => rfl
  | f :: g :: es, e, kind => by
    show lastIs (g :: (es ++ [e])) kind = _
    have := lastIs_snoc (g :: es) e kind
    rwa [List.cons_append] at this

def diffGo : List Rec → List Rec → List Ed → List Ed
  | [], [], out => out
  | _ :: xs, [], out => diffGo xs [] (addE out 2 [])
  | [], y :: ys, out => diffGo [] ys (addE out 3 [y])
  | x :: xs, y :: ys, out =>
    if x = y then diffGo xs ys (addE out 1 [])
    else if lcs (x :: xs) ys ≤ lcs xs (y :: ys) then diffGo xs (y :: ys) (addE out 2 []) else diffGo (x :: xs) ys (addE out 3 [y])
  termination_by a b _ => a.length + b.length
def diffL (a b : List Rec) : List Ed := diffGo a b []
end Go.Proofs.Ytdfpcnldfibceaa.Diff

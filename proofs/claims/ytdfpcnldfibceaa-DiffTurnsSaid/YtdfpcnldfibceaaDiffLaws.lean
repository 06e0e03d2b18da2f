/-
  What edits do to a log, what they cost, their way back; that the edits found are right, and cost least: plain functions and their laws.
-/
import Derived.Test.YtdfpcnldfibceaaDiffPlain
namespace Go.Proofs.Ytdfpcnldfibceaa.Diff
open Go.Proofs.Ytdfpcnldfibceaa.Recs

/-- May an edit be? -/
def mayE (e : Ed) : Bool :=
  if e.kind = 1 ∨ e.kind = 2 then decide (1 ≤ e.n) && e.recs.isEmpty else if e.kind = 3 then decide (e.n = 0) && !e.recs.isEmpty else false
theorem mayE_cases {e : Ed} (h : mayE e = true) : (e.kind = 1 ∧ 1 ≤ e.n ∧ e.recs = []) ∨ (e.kind = 2 ∧ 1 ≤ e.n ∧ e.recs = []) ∨ (e.kind = 3 ∧ e.n = 0 ∧ e.recs ≠ []) := by
  unfold mayE at h
  split at h
  · rename_i hk
    simp at h
    rcases hk with hk | hk
    · exact .inl ⟨hk, h⟩
    · exact .inr (.inl ⟨hk, h⟩)
  · split at h
    · rename_i hk
      simp at h
      exact .inr (.inr ⟨hk, h⟩)
    · simp at h
theorem mayE_1 {n : Int} (h : 1 ≤ n) : mayE ⟨1, n, []⟩ = true := by simp [mayE, h]
theorem mayE_2 {n : Int} (h : 1 ≤ n) : mayE ⟨2, n, []⟩ = true := by simp [mayE, h]
theorem mayE_3 {l : List Rec} (h : l ≠ []) : mayE ⟨3, 0, l⟩ = true := by simp [mayE, h]
def allMay (es : List Ed) : Prop := ∀ e ∈ es, mayE e = true

/-- One edit: what is left of the log, and what was made. -/
def stepE (s : List Rec × List Rec) (e : Ed) : Option (List Rec × List Rec) :=
  if (s.1.length : Int) < e.n then none
  else some (s.1.drop e.n.toNat, if e.kind = 1 then s.2 ++ s.1.take e.n.toNat else if e.kind = 3 then s.2 ++ e.recs else s.2)
def runE : List Ed → List Rec × List Rec → Option (List Rec × List Rec)
  | [], s => some s
  | e :: es, s => (stepE s e).bind (runE es)
theorem runE_append : ∀ (es fs : List Ed) (s : List Rec × List Rec), runE (es ++ fs) s = (runE es s).bind (runE fs)
  | [], _, _ => rfl
  | e :: es, fs, s => by
    simp only [List.cons_append, runE]
    cases stepE s e with
    | none => rfl
    | some t => exact runE_append es fs t
theorem runE_snoc (es : List Ed) (e : Ed) (s : List Rec × List Rec) : runE (es ++ [e]) s = (runE es s).bind fun t => stepE t e := by
  rw [runE_append]
  congr 1
  funext t
  simp only [runE]
  cases stepE t e <;> rfl

/-- What is behind is left. -/
theorem stepE_ext {a o r o' : List Rec} {e : Ed} (h0 : 0 ≤ e.n) (h : stepE (a, o) e = some (r, o')) (t : List Rec) : stepE (a ++ t, o) e = some (r ++ t, o') := by
  unfold stepE at h ⊢
  split at h
  · cases h
  · rename_i hn
    simp only [Option.some.injEq, Prod.mk.injEq] at h
    obtain ⟨rfl, rfl⟩ := h
    have hl : e.n.toNat ≤ a.length := by simp only at hn; omega
    rw [if_neg (by simp only [List.length_append]; simp only at hn; omega)]
    simp only [List.drop_append_of_le_length hl, List.take_append_of_le_length hl]
theorem runE_ext : ∀ {es : List Ed} {a o r o' : List Rec}, allMay es → runE es (a, o) = some (r, o') → ∀ t, runE es (a ++ t, o) = some (r ++ t, o')
  | [], a, o, r, o', _, h, t => by
    simp only [runE, Option.some.injEq, Prod.mk.injEq] at h ⊢
    exact ⟨by rw [h.1], h.2⟩
  | e :: es, a, o, r, o', hm, h, t => by
    simp only [runE] at h ⊢
    cases hs : stepE (a, o) e with
    | none => rw [hs] at h; cases h
    | some s =>
      rw [hs] at h
      obtain ⟨a1, o1⟩ := s
      have h0 : 0 ≤ e.n := by rcases mayE_cases (hm e (by simp)) with h | h | h <;> omega
      rw [stepE_ext h0 hs t]
      exact runE_ext (fun x hx => hm x (by simp [hx])) h t

/-! ### What they cost -/
def costE (e : Ed) : Int := (if e.kind = 2 then e.n else 0) + e.recs.length
def costL : List Ed → Int
  | [] => 0
  | e :: es => costE e + costL es
theorem costL_append : ∀ (es fs : List Ed), costL (es ++ fs) = costL es + costL fs
  | [], fs => by simp [costL]
  | e :: es, fs => by simp only [List.cons_append, costL, costL_append es fs]; omega

/-- What is kept is common. -/
theorem run_cost : ∀ {es : List Ed} {a o r o' : List Rec}, allMay es → runE es (a, o) = some (r, o') →
    ∃ c m k : List Rec, a = c ++ r ∧ o' = o ++ m ∧ k.Sublist c ∧ k.Sublist m ∧ costL es = (c.length - k.length : Int) + (m.length - k.length : Int)
  | [], a, o, r, o', _, h => by
    simp only [runE, Option.some.injEq, Prod.mk.injEq] at h
    exact ⟨[], [], [], by simp [h.1], by simp [h.2], List.nil_sublist _, List.nil_sublist _, by simp [costL]⟩
  | e :: es, a, o, r, o', hm, h => by
    simp only [runE] at h
    cases hs : stepE (a, o) e with
    | none => rw [hs] at h; cases h
    | some s =>
      rw [hs] at h
      obtain ⟨a1, o1⟩ := s
      obtain ⟨c, m, k, e1, e2, k1, k2, hc⟩ := run_cost (fun x hx => hm x (by simp [hx])) h
      unfold stepE at hs
      split at hs
      · cases hs
      · rename_i hn
        simp only [Option.some.injEq, Prod.mk.injEq] at hs
        simp only at hn
        obtain ⟨ha, ho⟩ := hs
        have hcut : a = a.take e.n.toNat ++ c ++ r := by rw [List.append_assoc, ← e1, ← ha, List.take_append_drop]
        have hlt : (a.take e.n.toNat).length = e.n.toNat := by rw [List.length_take]; omega
        rcases mayE_cases (hm e (by simp)) with ⟨hk, h1, hr⟩ | ⟨hk, h1, hr⟩ | ⟨hk, h1, hr⟩
        · refine ⟨a.take e.n.toNat ++ c, a.take e.n.toNat ++ m, a.take e.n.toNat ++ k, hcut, ?_, (List.Sublist.refl _).append k1, (List.Sublist.refl _).append k2, ?_⟩
          · rw [e2, ← ho, if_pos hk, List.append_assoc]
          · simp only [costL, costE, hk, hr, hc, List.length_append, List.length_nil]
            simp
            omega
        · refine ⟨a.take e.n.toNat ++ c, m, k, hcut, ?_, k1.trans (List.sublist_append_right _ _), k2, ?_⟩
          · rw [e2, ← ho]; simp [hk]
          · simp only [costL, costE, hk, hr, hc, List.length_append, List.length_nil, hlt]
            simp
            omega
        · refine ⟨c, e.recs ++ m, k, ?_, ?_, k1, k2.trans (List.sublist_append_right _ _), ?_⟩
          · rw [h1] at hcut; simpa using hcut
          · rw [e2, ← ho]; simp [hk]
          · simp only [costL, costE, hk, hc, List.length_append]
            simp
            omega

/-! ### addE, by cases -/
theorem lastIs_cases : ∀ (es : List Ed) (kind : Int), lastIs es kind = false ∨ ∃ ini e, es = ini ++ [e] ∧ e.kind = kind := by
  intro es kind
  rcases List.eq_nil_or_concat es with rfl | ⟨ini, e, h⟩
  · exact .inl rfl
  · rw [List.concat_eq_append] at h
    subst h
    rw [lastIs_snoc]
    by_cases hk : e.kind = kind
    · exact .inr ⟨ini, e, rfl, hk⟩
    · exact .inl (by simpa using hk)
theorem addE_cases (es : List Ed) (kind : Int) (l : List Rec) :
    addE es kind l = es ++ [⟨kind, if kind = 3 then 0 else 0 + 1, [] ++ l⟩] ∨ ∃ ini e, es = ini ++ [e] ∧ e.kind = kind ∧ addE es kind l = ini ++ [⟨kind, if kind = 3 then e.n else e.n + 1, e.recs ++ l⟩] := by
  rcases lastIs_cases es kind with h | ⟨ini, e, rfl, hk⟩
  · exact .inl (addE_new es kind l h)
  · exact .inr ⟨ini, e, rfl, hk, addE_same ini e kind l hk⟩

theorem cost_add1 (es : List Ed) : costL (addE es 1 []) = costL es := by
  rcases addE_cases es 1 [] with h | ⟨ini, e, rfl, hk, h⟩
  · rw [h, costL_append]; simp [costL, costE]
  · rw [h, costL_append, costL_append]; simp [costL, costE, hk]
theorem cost_add2 (es : List Ed) : costL (addE es 2 []) = costL es + 1 := by
  rcases addE_cases es 2 [] with h | ⟨ini, e, rfl, hk, h⟩
  · rw [h, costL_append]; simp [costL, costE]
  · rw [h, costL_append, costL_append]; simp [costL, costE, hk]; omega
theorem cost_add3 (es : List Ed) (y : Rec) : costL (addE es 3 [y]) = costL es + 1 := by
  rcases addE_cases es 3 [y] with h | ⟨ini, e, rfl, hk, h⟩
  · rw [h, costL_append]; simp [costL, costE]
  · rw [h, costL_append, costL_append]; simp [costL, costE, hk]; omega

def dist (a b : List Rec) : Int := a.length + b.length - 2 * (lcs a b : Int)
theorem cost_diffGo (a b : List Rec) : ∀ out, costL (diffGo a b out) = costL out + dist a b := by
  induction a, b using lcs.induct with
  | case1 b =>
    induction b with
    | nil => intro out; rw [diffGo]; simp [dist, lcs_nil_left]
    | cons y ys ih => intro out; rw [diffGo, ih, cost_add3]; simp [dist, lcs_nil_left]; omega
  | case2 x xs =>
    suffices h : ∀ (a : List Rec) out, costL (diffGo a [] out) = costL out + dist a [] from h (x :: xs)
    intro a
    induction a with
    | nil => intro out; rw [diffGo]; simp [dist, lcs_nil_left]
    | cons y ys ih => intro out; rw [diffGo, ih, cost_add2]; simp [dist, lcs_nil_right]; omega
  | case3 xs y ys ih =>
    intro out
    rw [diffGo, if_pos rfl, ih, cost_add1]
    simp only [dist, lcs_cons, if_true, List.length_cons]
    omega
  | case4 x xs y ys hne ih1 ih2 =>
    intro out
    rw [diffGo, if_neg hne]
    split
    · rename_i h
      rw [ih1, cost_add2]
      simp only [dist, lcs_cons x y, if_neg hne, List.length_cons, Nat.max_eq_left h]
      omega
    · rename_i h
      rw [ih2, cost_add3]
      simp only [dist, lcs_cons x y, if_neg hne, List.length_cons, Nat.max_eq_right (Nat.le_of_lt (Nat.lt_of_not_le h))]
      omega
theorem cost_diffL (a b : List Rec) : costL (diffL a b) = dist a b := by
  unfold diffL
  rw [cost_diffGo]
  simp [costL]

/-- None cost less. -/
theorem diff_least {a b : List Rec} {es : List Ed} (hm : allMay es) (h : runE es (a, []) = some ([], b)) : costL (diffL a b) ≤ costL es := by
  obtain ⟨c, m, k, h1, h2, h3, h4, hc⟩ := run_cost hm h
  simp only [List.append_nil] at h1
  simp only [List.nil_append] at h2
  subst h1 h2
  have := lcs_max _ _ k h3 h4
  rw [cost_diffL, hc, dist]
  omega
theorem diff_self (a : List Rec) : costL (diffL a a) = 0 := by
  have h1 := lcs_max a a a (List.Sublist.refl _) (List.Sublist.refl _)
  have h2 := lcs_le_left a a
  rw [cost_diffL, dist]
  omega

/-! ### They may be, and do what they are to do -/
theorem may_add1 {es : List Ed} (h : allMay es) : allMay (addE es 1 []) := by
  intro x hx
  rcases addE_cases es 1 [] with he | ⟨ini, e, rfl, hk, he⟩
  · rw [he, List.mem_append, List.mem_singleton] at hx
    rcases hx with hx | rfl
    · exact h x hx
    · exact mayE_1 (by simp)
  · rw [he, List.mem_append, List.mem_singleton] at hx
    rcases hx with hx | rfl
    · exact h x (by simp [hx])
    · rcases mayE_cases (h e (by simp)) with ⟨_, h1, h2⟩ | ⟨h0, _⟩ | ⟨h0, _⟩
      · rw [h2]; exact mayE_1 (by simp; omega)
      · omega
      · omega
theorem may_add2 {es : List Ed} (h : allMay es) : allMay (addE es 2 []) := by
  intro x hx
  rcases addE_cases es 2 [] with he | ⟨ini, e, rfl, hk, he⟩
  · rw [he, List.mem_append, List.mem_singleton] at hx
    rcases hx with hx | rfl
    · exact h x hx
    · exact mayE_2 (by simp)
  · rw [he, List.mem_append, List.mem_singleton] at hx
    rcases hx with hx | rfl
    · exact h x (by simp [hx])
    · rcases mayE_cases (h e (by simp)) with ⟨h0, _⟩ | ⟨_, h1, h2⟩ | ⟨h0, _⟩
      · omega
      · rw [h2]; exact mayE_2 (by simp; omega)
      · omega
theorem may_add3 {es : List Ed} (h : allMay es) (y : Rec) : allMay (addE es 3 [y]) := by
  intro x hx
  rcases addE_cases es 3 [y] with he | ⟨ini, e, rfl, hk, he⟩
  · rw [he, List.mem_append, List.mem_singleton] at hx
    rcases hx with hx | rfl
    · exact h x hx
    · exact mayE_3 (by simp)
  · rw [he, List.mem_append, List.mem_singleton] at hx
    rcases hx with hx | rfl
    · exact h x (by simp [hx])
    · rcases mayE_cases (h e (by simp)) with ⟨h0, _⟩ | ⟨h0, _⟩ | ⟨_, h1, h2⟩
      · omega
      · omega
      · rw [if_pos rfl, h1]; exact mayE_3 (by simp)

theorem run_new {es : List Ed} {xs ys : List Rec} (hm : allMay es) (h : runE es (xs, []) = some ([], ys)) (t : List Rec) (e : Ed) : runE (es ++ [e]) (xs ++ t, []) = stepE (t, ys) e := by
  rw [runE_snoc, runE_ext hm h t]
  rfl
theorem run_last {ini : List Ed} {e e' : Ed} {xs ys ys' : List Rec} (hm : allMay (ini ++ [e])) (h : runE (ini ++ [e]) (xs, []) = some ([], ys)) (t : List Rec)
    (hs : ∀ r o : List Rec, r.length = e.n.toNat → 0 ≤ e.n → stepE (r, o) e = some ([], ys) → stepE (r ++ t, o) e' = some ([], ys')) : runE (ini ++ [e']) (xs ++ t, []) = some ([], ys') := by
  rw [runE_snoc] at h ⊢
  have hm1 : allMay ini := fun x hx => hm x (by simp [hx])
  have h0 : 0 ≤ e.n := by rcases mayE_cases (hm e (by simp)) with h | h | h <;> omega
  cases hr : runE ini (xs, []) with
  | none => rw [hr] at h; cases h
  | some s =>
    obtain ⟨r, o⟩ := s
    rw [hr] at h
    rw [runE_ext hm1 hr t]
    have h' : stepE (r, o) e = some ([], ys) := h
    refine hs r o ?_ h0 h'
    unfold stepE at h'
    split at h'
    · cases h'
    · rename_i hn
      simp only [Option.some.injEq, Prod.mk.injEq, List.drop_eq_nil_iff] at h'
      simp only at hn
      omega
theorem run_add1 {es : List Ed} {xs ys : List Rec} (hm : allMay es) (h : runE es (xs, []) = some ([], ys)) (x : Rec) : runE (addE es 1 []) (xs ++ [x], []) = some ([], ys ++ [x]) := by
  rcases addE_cases es 1 [] with he | ⟨ini, e, rfl, hk, he⟩
  · rw [he, run_new hm h]
    simp [stepE]
  · rw [he]
    refine run_last hm h [x] fun r o hr h0 hs => ?_
    have h1 : (e.n + 1).toNat = r.length + 1 := by omega
    unfold stepE at hs ⊢
    simp only [hk, if_true] at hs
    rw [if_neg (by simp; omega)] at hs ⊢
    simp only [Option.some.injEq, Prod.mk.injEq] at hs
    rw [← hr, List.take_length] at hs
    simp [h1, ← hs.2]
    exact List.take_of_length_le (by simp)
theorem run_add2 {es : List Ed} {xs ys : List Rec} (hm : allMay es) (h : runE es (xs, []) = some ([], ys)) (x : Rec) : runE (addE es 2 []) (xs ++ [x], []) = some ([], ys) := by
  rcases addE_cases es 2 [] with he | ⟨ini, e, rfl, hk, he⟩
  · rw [he, run_new hm h]
    simp [stepE]
  · rw [he]
    refine run_last hm h [x] fun r o hr h0 hs => ?_
    have h1 : (e.n + 1).toNat = r.length + 1 := by omega
    unfold stepE at hs ⊢
    simp only [hk] at hs
    rw [if_neg (by simp; omega)] at hs ⊢
    simp only [Option.some.injEq, Prod.mk.injEq] at hs
    have := hs.2
    simp at this
    simp [h1, this]
theorem run_add3 {es : List Ed} {xs ys : List Rec} (hm : allMay es) (h : runE es (xs, []) = some ([], ys)) (y : Rec) : runE (addE es 3 [y]) (xs, []) = some ([], ys ++ [y]) := by
  rcases addE_cases es 3 [y] with he | ⟨ini, e, rfl, hk, he⟩
  · have := run_new hm h [] ⟨3, if (3 : Int) = 3 then 0 else 0 + 1, [] ++ [y]⟩
    rw [List.append_nil] at this
    rw [he, this]
    simp [stepE]
  · rw [he]
    have := run_last (e' := ⟨3, if (3 : Int) = 3 then e.n else e.n + 1, e.recs ++ [y]⟩) (ys' := ys ++ [y]) hm h [] (fun r o hr h0 hs => by
      unfold stepE at hs ⊢
      simp only [hk] at hs
      rw [if_neg (by simp; omega)] at hs ⊢
      simp only [Option.some.injEq, Prod.mk.injEq] at hs
      have h2 := hs.2
      have h3 := hs.1
      simp at h2 h3
      simp [h3, ← h2])
    rwa [List.append_nil] at this

theorem diffGo_right (a b : List Rec) : ∀ (out : List Ed) (xs ys : List Rec), allMay out → runE out (xs, []) = some ([], ys) →
    allMay (diffGo a b out) ∧ runE (diffGo a b out) (xs ++ a, []) = some ([], ys ++ b) := by
  induction a, b using lcs.induct with
  | case1 b =>
    induction b with
    | nil => intro out xs ys hm h; rw [diffGo]; simpa using ⟨hm, h⟩
    | cons y t ih =>
      intro out xs ys hm h
      rw [diffGo]
      have := ih _ xs (ys ++ [y]) (may_add3 hm y) (run_add3 hm h y)
      simpa using this
  | case2 x xs =>
    suffices hs : ∀ (a : List Rec) (out : List Ed) (xs ys : List Rec), allMay out → runE out (xs, []) = some ([], ys) → allMay (diffGo a [] out) ∧ runE (diffGo a [] out) (xs ++ a, []) = some ([], ys ++ []) from hs (x :: xs)
    intro a
    induction a with
    | nil => intro out xs ys hm h; rw [diffGo]; simpa using ⟨hm, h⟩
    | cons y t ih =>
      intro out xs ys hm h
      rw [diffGo]
      have := ih _ (xs ++ [y]) ys (may_add2 hm) (run_add2 hm h y)
      simpa using this
  | case3 t y u ih =>
    intro out xs ys hm h
    rw [diffGo, if_pos rfl]
    have := ih _ (xs ++ [y]) (ys ++ [y]) (may_add1 hm) (run_add1 hm h y)
    simpa using this
  | case4 x t y u hne ih1 ih2 =>
    intro out xs ys hm h
    rw [diffGo, if_neg hne]
    split
    · have := ih1 _ (xs ++ [x]) ys (may_add2 hm) (run_add2 hm h x)
      simpa using this
    · have := ih2 _ xs (ys ++ [y]) (may_add3 hm y) (run_add3 hm h y)
      simpa using this
theorem diffL_right (a b : List Rec) : allMay (diffL a b) ∧ runE (diffL a b) (a, []) = some ([], b) := by
  have := diffGo_right a b [] [] [] (fun x hx => by simp at hx) rfl
  simpa [diffL] using this

/-! ### The way back -/
def backE (a : List Rec) (e : Ed) : Ed := if e.kind = 2 then ⟨3, 0, a.take e.n.toNat⟩ else if e.kind = 3 then ⟨2, e.recs.length, []⟩ else e
def backL : List Rec → List Ed → List Ed
  | _, [] => []
  | a, e :: es => backE a e :: backL (a.drop e.n.toNat) es
theorem back_right : ∀ {es : List Ed} {a o r o' : List Rec}, allMay es → runE es (a, o) = some (r, o') →
    allMay (backL a es) ∧ ∃ c m : List Rec, a = c ++ r ∧ o' = o ++ m ∧ ∀ t p, runE (backL a es) (m ++ t, p) = some (t, p ++ c)
  | [], a, o, r, o', _, h => by
    simp only [runE, Option.some.injEq, Prod.mk.injEq] at h
    exact ⟨fun x hx => by simp [backL] at hx, [], [], by simp [h.1], by simp [h.2], fun t p => by simp [backL, runE]⟩
  | e :: es, a, o, r, o', hm, h => by
    simp only [runE] at h
    cases hs : stepE (a, o) e with
    | none => rw [hs] at h; cases h
    | some s =>
      rw [hs] at h
      obtain ⟨a1, o1⟩ := s
      obtain ⟨hmb, c, m, e1, e2, hb⟩ := back_right (fun x hx => hm x (by simp [hx])) h
      unfold stepE at hs
      split at hs
      · cases hs
      · rename_i hn
        simp only [Option.some.injEq, Prod.mk.injEq] at hs
        simp only at hn
        obtain ⟨ha, ho⟩ := hs
        rw [← ha] at hmb hb
        have hcut : a = a.take e.n.toNat ++ c ++ r := by rw [List.append_assoc, ← e1, ← ha, List.take_append_drop]
        have hlt : (a.take e.n.toNat).length = e.n.toNat := by rw [List.length_take]; omega
        have hne : 1 ≤ e.n → a.take e.n.toNat ≠ [] := by intro h1 h2; rw [h2] at hlt; simp at hlt; omega
        refine ⟨?_, ?_⟩
        · intro x hx
          simp only [backL, List.mem_cons] at hx
          rcases hx with rfl | hx
          · rcases mayE_cases (hm e (by simp)) with ⟨hk, h1, hr⟩ | ⟨hk, h1, hr⟩ | ⟨hk, h1, hr⟩
            · simpa [backE, hk] using hm e (by simp)
            · simp only [backE, hk, if_true]
              exact mayE_3 (hne h1)
            · simp [backE, hk]
              refine mayE_2 ?_
              have : e.recs.length ≠ 0 := by simpa using hr
              omega
          · exact hmb x hx
        · rcases mayE_cases (hm e (by simp)) with ⟨hk, h1, hr⟩ | ⟨hk, h1, hr⟩ | ⟨hk, h1, hr⟩
          · refine ⟨a.take e.n.toNat ++ c, a.take e.n.toNat ++ m, hcut, by rw [e2, ← ho, if_pos hk, List.append_assoc], fun t p => ?_⟩
            have : stepE (a.take e.n.toNat ++ m ++ t, p) e = some (m ++ t, p ++ a.take e.n.toNat) := by
              unfold stepE
              rw [if_neg (by simp only [List.length_append, hlt]; omega), if_pos hk]
              simp only [List.append_assoc]
              rw [List.drop_left' hlt, List.take_left' hlt]
            simp only [backL, runE, backE, hk]
            simp only [show ¬ (1 : Int) = 2 by omega, show ¬ (1 : Int) = 3 by omega, if_false]
            rw [this]
            simp only [Option.bind_some]
            rw [hb, List.append_assoc]
          · refine ⟨a.take e.n.toNat ++ c, m, hcut, by rw [e2, ← ho]; simp [hk], fun t p => ?_⟩
            simp only [backL, runE, backE, hk, if_true]
            have : stepE (m ++ t, p) ⟨3, 0, a.take e.n.toNat⟩ = some (m ++ t, p ++ a.take e.n.toNat) := by simp [stepE]; omega
            rw [this]
            simp only [Option.bind_some]
            rw [hb, List.append_assoc]
          · refine ⟨c, e.recs ++ m, by rw [h1] at hcut; simpa using hcut, by rw [e2, ← ho]; simp [hk], fun t p => ?_⟩
            simp only [backL, runE, backE, hk]
            simp only [show ¬ (3 : Int) = 2 by omega, if_false, if_true]
            have : stepE (e.recs ++ m ++ t, p) ⟨2, e.recs.length, []⟩ = some (m ++ t, p) := by
              unfold stepE
              rw [if_neg (by simp only [List.length_append]; omega)]
              simp [List.append_assoc]
            rw [this]
            simp only [Option.bind_some]
            rw [hb]
end Go.Proofs.Ytdfpcnldfibceaa.Diff

/-
  Plain: words of a text, runs of a needle, which word fits (chapters 15 and 35).
-/
import Derived.Lib.IndexMore
namespace Go.Proofs.Ytloakdiioaodaaa.Sift

def smallB (c : UInt8) : UInt8 := if 97 ≤ c.toNat ∧ c.toNat ≤ 122 ∨ 48 ≤ c.toNat ∧ c.toNat ≤ 57 then c else if 65 ≤ c.toNat ∧ c.toNat ≤ 90 then c + 32 else 0
def letB (c : UInt8) : Bool := smallB c != 0

/-- The row of letters that a text begins with, made small; what is left. -/
def run : List UInt8 → List UInt8
  | [] => []
  | c :: t => if letB c = true then smallB c :: run t else []
def rest : List UInt8 → List UInt8
  | [] => []
  | c :: t => if letB c = true then rest t else c :: t
theorem run_rest_length : ∀ l, (run l).length + (rest l).length = l.length
  | [] => rfl
  | c :: t => by
    have := run_rest_length t
    rw [run, rest]
    split <;> simp only [List.length_cons, List.length_nil] <;> omega
/-- The words of a text, as they are split off: row is the word that is under way. -/
def tell (row : List UInt8) : List (List UInt8) := if row = [] then [] else [row.take 24]
def split : List UInt8 → List UInt8 → List (List UInt8)
  | row, [] => tell row
  | row, c :: t => if letB c = true then split (row ++ [smallB c]) t else tell row ++ split [] t
def words (l : List UInt8) : List (List UInt8) := split [] l

/-- The runs of what is left of a needle: letters, open ahead, open behind. -/
structure Run where
  s : List UInt8
  ahead : Bool
  behind : Bool
def runs : Bool → List UInt8 → List Run
  | _, [] => []
  | first, c :: t => if letB c = true then ⟨run (c :: t), first, rest (c :: t) == []⟩ :: runs false (rest (c :: t)) else runs false t
termination_by _ l => l.length
decreasing_by
  all_goals simp_wf
  · have h1 := run_rest_length (c :: t)
    rename_i h
    rw [run, if_pos h] at h1
    simp only [List.length_cons] at h1
    omega
/-- Does a word fit a run? -/
def fitsB (r : Run) (w : List UInt8) : Bool :=
  if r.ahead && r.behind then Lib.contains w r.s || w.length == 24
  else if r.ahead then r.s.isSuffixOf w || w.length == 24
  else if r.behind then (r.s.take 24).isPrefixOf w
  else w == r.s.take 24
def mayB (text needle : List UInt8) : Bool := (runs true needle).all fun r => (words text).any (fitsB r)
theorem split_run : ∀ (l row : List UInt8), split row l = tell (row ++ run l) ++ split [] (rest l)
  | [], row => by simp [split, run, rest, tell]
  | c :: t, row => by
    rw [split, run, rest]
    by_cases h : letB c = true
    · rw [if_pos h, if_pos h, if_pos h, split_run t (row ++ [smallB c])]
      simp
    · rw [if_neg h, if_neg h, if_neg h, split, if_neg h]
      simp [tell]
theorem split_ahead : ∀ (a row : List UInt8), ∃ pre row', ∀ l, split row (a ++ l) = pre ++ split row' l
  | [], row => ⟨[], row, fun l => rfl⟩
  | c :: t, row => by
    by_cases h : letB c = true
    · obtain ⟨pre, row', hh⟩ := split_ahead t (row ++ [smallB c])
      exact ⟨pre, row', fun l => by rw [List.cons_append, split, if_pos h, hh l]⟩
    · obtain ⟨pre, row', hh⟩ := split_ahead t []
      exact ⟨tell row ++ pre, row', fun l => by rw [List.cons_append, split, if_neg h, hh l, List.append_assoc]⟩
theorem run_append : ∀ (l b : List UInt8), run (l ++ b) = if rest l = [] then run l ++ run b else run l
  | [], b => by simp [run, rest]
  | c :: t, b => by
    rw [List.cons_append, run, run, rest]
    by_cases h : letB c = true
    · rw [if_pos h, if_pos h, if_pos h, run_append t b]
      split <;> rfl
    · rw [if_neg h, if_neg h, if_neg h, if_neg (by simp)]
theorem rest_append : ∀ (l b : List UInt8), rest (l ++ b) = if rest l = [] then rest b else rest l ++ b
  | [], b => by simp [rest]
  | c :: t, b => by
    rw [List.cons_append, rest, rest]
    by_cases h : letB c = true
    · rw [if_pos h, if_pos h, rest_append t b]
    · rw [if_neg h, if_neg h, if_neg (by simp)]; rfl
theorem contains_iff {s sub : List UInt8} : Lib.contains s sub = true ↔ ∃ a b, a ++ sub ++ b = s := by
  unfold Lib.contains
  rw [decide_eq_true_eq]
  constructor
  · intro h
    rcases Lib.index_spec s sub with ⟨h1, _⟩ | ⟨i, h1, h2, h3, _⟩
    · omega
    · unfold Lib.occAt at h3
      rw [List.isPrefixOf_iff_prefix] at h3
      obtain ⟨b, hb⟩ := h3
      exact ⟨s.take i, b, by rw [List.append_assoc, hb, List.take_append_drop]⟩
  · rintro ⟨a, b, rfl⟩
    rcases Lib.index_spec (a ++ sub ++ b) sub with ⟨h1, h2⟩ | ⟨i, h1, _⟩
    · have := h2 a.length (by simp)
      unfold Lib.occAt at this
      rw [List.append_assoc, List.drop_left] at this
      have h3 : sub.isPrefixOf (sub ++ b) = true := by rw [List.isPrefixOf_iff_prefix]; exact List.prefix_append _ _
      rw [h3] at this
      cases this
    · omega
theorem contains_mid (a n b : List UInt8) : Lib.contains (a ++ n ++ b) n = true := by
  rw [contains_iff]
  exact ⟨a, b, rfl⟩
theorem tell_mem {row : List UInt8} (h : row ≠ []) : row.take 24 ∈ tell row := by
  unfold tell
  rw [if_neg h]
  simp
/-- The word in which a run stands fits it. -/
theorem fits_run (r : Run) (row more : List UInt8) (h1 : r.ahead = false → row = []) (h2 : r.behind = false → more = []) : fitsB r ((row ++ r.s ++ more).take 24) = true := by
  obtain ⟨s, ahead, behind⟩ := r
  unfold fitsB
  simp only at h1 h2 ⊢
  have hlong : 24 ≤ (row ++ s ++ more).length → (((row ++ s ++ more).take 24).length == 24) = true := by
    intro h
    rw [List.length_take, beq_iff_eq]
    omega
  have hshort : (row ++ s ++ more).length ≤ 24 → (row ++ s ++ more).take 24 = row ++ s ++ more := List.take_of_length_le
  cases ahead <;> cases behind
  · rw [h1 rfl, h2 rfl]
    simp
  · rw [h1 rfl]
    simp only [Bool.false_and, Bool.false_eq_true, if_false, if_true, List.nil_append]
    rw [List.isPrefixOf_iff_prefix, List.take_append]
    exact List.prefix_append _ _
  · rw [h2 rfl]
    simp only [Bool.and_false, Bool.false_eq_true, if_false, if_true]
    rw [h2 rfl] at hlong hshort
    by_cases h : 24 ≤ (row ++ s ++ []).length
    · rw [hlong h, Bool.or_true]
    · rw [hshort (by omega), List.append_nil]
      simp only [Bool.or_eq_true, List.isSuffixOf_iff_suffix]
      exact .inl (List.suffix_append _ _)
  · simp only [Bool.and_self, if_true]
    by_cases h : 24 ≤ (row ++ s ++ more).length
    · rw [hlong h, Bool.or_true]
    · rw [hshort (by omega), contains_mid]; rfl
theorem runs_fit (b : List UInt8) : ∀ (first : Bool) (l row : List UInt8), (first = false → row = []) → ∀ r ∈ runs first l, ∃ w ∈ split row (l ++ b), fitsB r w = true := by
  intro first l
  induction first, l using runs.induct with
  | case1 first =>
    intro row _ r hr
    rw [runs] at hr
    cases hr
  | case2 first c t h ih =>
    intro row hrow r hr
    rw [runs, if_pos h] at hr
    have hne : run (c :: t) ≠ [] := by rw [run, if_pos h]; simp
    rw [split_run (c :: t ++ b) row, run_append, rest_append]
    rcases List.mem_cons.1 hr with rfl | hr
    · by_cases he : rest (c :: t) = []
      · rw [if_pos he, if_pos he]
        refine ⟨_, List.mem_append_left _ (tell_mem (by simp [hne])), ?_⟩
        rw [← List.append_assoc]
        exact fits_run ⟨run (c :: t), first, rest (c :: t) == []⟩ row (run b) hrow (fun hb => by simp [he] at hb)
      · rw [if_neg he, if_neg he]
        refine ⟨_, List.mem_append_left _ (tell_mem (by simp [hne])), ?_⟩
        have := fits_run ⟨run (c :: t), first, rest (c :: t) == []⟩ row [] hrow (fun _ => rfl)
        rwa [List.append_nil] at this
    · have he : rest (c :: t) ≠ [] := by
        intro he
        rw [he, runs] at hr
        cases hr
      rw [if_neg he, if_neg he]
      obtain ⟨w, hw, hf⟩ := ih [] (fun _ => rfl) r hr
      exact ⟨w, List.mem_append_right _ hw, hf⟩
  | case3 first c t h ih =>
    intro row hrow r hr
    rw [runs, if_neg h] at hr
    obtain ⟨w, hw, hf⟩ := ih [] (fun _ => rfl) r hr
    refine ⟨w, ?_, hf⟩
    rw [List.cons_append, split, if_neg h]
    exact List.mem_append_right _ hw
/-- What has a needle may have it. -/
theorem may_sound (a n b : List UInt8) : mayB (a ++ n ++ b) n = true := by
  unfold mayB words
  rw [List.all_eq_true]
  intro r hr
  obtain ⟨pre, row, hh⟩ := split_ahead a []
  rw [List.append_assoc, hh, List.any_append]
  obtain ⟨w, hw, hf⟩ := runs_fit b true n row (fun h => by cases h) r hr
  rw [List.any_eq_true.2 ⟨w, hw, hf⟩, Bool.or_true]

/-- The words by the places where they begin. -/
def wordsR : Bool → List UInt8 → List (List UInt8)
  | _, [] => []
  | p, c :: t => (if letB c = true ∧ p = false then [(run (c :: t)).take 24] else []) ++ wordsR (letB c) t
theorem wordsR_rest : ∀ l, wordsR true l = wordsR false (rest l)
  | [] => rfl
  | c :: t => by
    rw [wordsR, rest]
    by_cases h : letB c = true
    · rw [if_pos h, if_neg (by simp), h, wordsR_rest t]; rfl
    · rw [if_neg h, if_neg (by simp), wordsR, if_neg (by simp [h])]
theorem wordsR_words (l : List UInt8) : wordsR false l = words l := by
  unfold words
  obtain ⟨n, hn⟩ : ∃ n, n = l.length := ⟨_, rfl⟩
  induction n using Nat.strongRecOn generalizing l with
  | ind n ih =>
    match l with
    | [] => simp [wordsR, split, tell]
    | c :: t =>
      have hlen := run_rest_length t
      simp only [List.length_cons] at hn
      rw [split_run, List.nil_append, wordsR]
      by_cases h : letB c = true
      · have hne : run (c :: t) ≠ [] := by rw [run, if_pos h]; simp
        rw [if_pos ⟨h, rfl⟩, h, wordsR_rest, ih (rest t).length (by omega) (rest t) rfl]
        unfold tell
        rw [if_neg hne]
        congr 2
        rw [rest, if_pos h]
      · have hr : run (c :: t) = [] := by rw [run, if_neg h]
        have hf : letB c = false := by cases hc : letB c <;> simp_all
        rw [if_neg (by simp [hf]), hr, hf, ih t.length (by omega) t rfl, rest, if_neg h, split, if_neg h]
        simp [tell]
end Go.Proofs.Ytloakdiioaodaaa.Sift

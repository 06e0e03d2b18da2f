/-
  How often symbols are in tokens: the plain function and its laws.
-/
import Derived.Test.YtdfpcnldfibceaaToksPlain
namespace Go.Proofs.Ytdfpcnldfibceaa.Toks

def bump (l : List Int) (i : Nat) : List Int := l.set i (l.getD i 0 + 1)
def cntStep (st : List Int × List Int) (t : Tk) : List Int × List Int :=
  (bump st.1 (splitP t).sym.toNat, if t.len = 0 then st.2 else bump st.2 (splitP t).dist.toNat)
def cnts (ts : List Tk) : List Int × List Int := ts.foldl cntStep (List.replicate 265 0, List.replicate 12 0)
def symsOf (ts : List Tk) : List Int := bump (cnts ts).1 256
def farsOf (ts : List Tk) : List Int := (cnts ts).2
/-- May all be? -/
def allOk (ts : List Tk) : Bool := ts.all fun t => mayB t.lit t.len t.dist

theorem bump_length (l : List Int) (i : Nat) : (bump l i).length = l.length := by simp [bump]
theorem cntStep_length (st : List Int × List Int) (t : Tk) : (cntStep st t).1.length = st.1.length ∧ (cntStep st t).2.length = st.2.length := by
  unfold cntStep
  refine ⟨bump_length _ _, ?_⟩
  simp only
  split
  · rfl
  · exact bump_length _ _
theorem foldl_cnt_length (ts : List Tk) : ∀ st : List Int × List Int, (ts.foldl cntStep st).1.length = st.1.length ∧ (ts.foldl cntStep st).2.length = st.2.length := by
  induction ts with
  | nil => intro st; exact ⟨rfl, rfl⟩
  | cons t ts ih =>
    intro st
    have h := ih (cntStep st t)
    have h2 := cntStep_length st t
    exact ⟨h.1.trans h2.1, h.2.trans h2.2⟩
theorem cnts_length (ts : List Tk) : (cnts ts).1.length = 265 ∧ (cnts ts).2.length = 12 := by
  have h := foldl_cnt_length ts (List.replicate 265 0, List.replicate 12 0)
  exact ⟨h.1.trans List.length_replicate, h.2.trans List.length_replicate⟩
theorem cnts_snoc (ts : List Tk) (k : Nat) (h : k < ts.length) : cnts (ts.take (k + 1)) = cntStep (cnts (ts.take k)) ts[k] := by
  unfold cnts
  rw [List.take_succ_eq_append_getElem h, List.foldl_append]
  rfl
def Within (b : Int) (l : List Int) : Prop := ∀ i, 0 ≤ l.getD i 0 ∧ l.getD i 0 ≤ b
theorem Within.mono {b c : Int} {l : List Int} (h : Within b l) (hbc : b ≤ c) : Within c l := fun i => by have := h i; omega
theorem Within.bump {b : Int} {l : List Int} (h : Within b l) (j : Nat) : Within (b + 1) (bump l j) := by
  intro i
  unfold Toks.bump
  simp only [List.getD_eq_getElem?_getD, List.getElem?_set]
  have hi := h i
  have hj := h j
  simp only [List.getD_eq_getElem?_getD] at hi hj
  split
  · split
    · simp; omega
    · simp; omega
  · omega
theorem cnts_within (ts : List Tk) : Within ts.length (cnts ts).1 ∧ Within ts.length (cnts ts).2 := by
  have key : ∀ (ts : List Tk) (st : List Int × List Int) (b : Int), Within b st.1 → Within b st.2 → Within (b + ts.length) (ts.foldl cntStep st).1 ∧ Within (b + ts.length) (ts.foldl cntStep st).2 := by
    intro ts
    induction ts with
    | nil => intro st b h1 h2; simpa using ⟨h1, h2⟩
    | cons t ts ih =>
      intro st b h1 h2
      have h := ih (cntStep st t) (b + 1) (h1.bump _) (by
        unfold cntStep
        simp only
        split
        · exact h2.mono (by omega)
        · exact h2.bump _)
      simp only [List.length_cons, List.foldl_cons]
      exact ⟨h.1.mono (by omega), h.2.mono (by omega)⟩
  have z : ∀ n : Nat, Within 0 (List.replicate n 0) := by
    intro n i
    simp only [List.getD_eq_getElem?_getD, List.getElem?_replicate]
    split <;> simp
  have h := key ts (List.replicate 265 0, List.replicate 12 0) 0 (z _) (z _)
  rw [Int.zero_add] at h
  exact h

/-- A token's symbols, in numbers. -/
theorem sym_nat (t : Tk) (h0 : 0 ≤ t.lit) (h1 : t.lit ≤ 255) (hm : mayB t.lit t.len t.dist = true) :
    ∃ S D : Nat, ∃ L F : Int, splitP t = ⟨S, L, D, F⟩ ∧ S < 265 ∧ D < 12 ∧ (t.len = 0 → S < 256) ∧ (t.len ≠ 0 → 257 ≤ S ∧ 3 ≤ t.len) ∧ splitE t = 0 := by
  by_cases hl : t.len = 0
  · refine ⟨t.lit.toNat, 0, 0, 0, ?_, by omega, by omega, fun _ => by omega, fun h => absurd hl h, ?_⟩
    · unfold splitP; rw [if_pos hm, if_pos hl, Int.toNat_of_nonneg h0]; rfl
    · unfold splitE; rw [if_pos hm]
  · have hb : t.lit = 0 ∧ 3 ≤ t.len ∧ t.len ≤ 257 ∧ 1 ≤ t.dist ∧ t.dist ≤ 4095 := by
      unfold mayB at hm; rw [if_neg hl] at hm; exact of_decide_eq_true hm
    have a1 := lg_nonneg (t.len - 2)
    have a2 := lg_lt (t.len - 2) 8 (by omega) (by omega) (by rw [pw_8]; omega)
    have b1 := lg_nonneg t.dist
    have b2 := lg_lt t.dist 12 (by omega) (by omega) (by rw [pw_12]; omega)
    refine ⟨(257 + lg (t.len - 2)).toNat, (lg t.dist).toNat, t.len - 2 - pw (lg (t.len - 2)), t.dist - pw (lg t.dist), ?_, by omega, by omega, fun h => absurd h hl, fun _ => ⟨by omega, hb.2.1⟩, ?_⟩
    · unfold splitP
      rw [if_pos hm, if_neg hl, Int.toNat_of_nonneg (by omega), Int.toNat_of_nonneg b1]
    · unfold splitE; rw [if_pos hm]
end Go.Proofs.Ytdfpcnldfibceaa.Toks

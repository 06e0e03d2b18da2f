/-
  Plain functions for the tokens' pieces, and their laws: no program in sight.
  How often symbols are in tokens: the plain function and its laws.
-/
import Derived.WalkKit

namespace Go.Proofs.YtidclmmnfienlaaGreatDoor.Toks
open Go.RowKit

/-- The greatest b with 2^b at most v. -/
def lg (v : Int) : Int := ((Nat.log2 v.toNat : Nat) : Int)
def pw (b : Int) : Int := ((2 ^ b.toNat : Nat) : Int)

theorem lg_nonneg (v : Int) : 0 ≤ lg v := by unfold lg; omega
theorem pw_pos (b : Int) : 1 ≤ pw b := by
  unfold pw
  have : 0 < 2 ^ b.toNat := Nat.two_pow_pos _
  omega
theorem pw_lg_le (v : Int) (h : 1 ≤ v) : pw (lg v) ≤ v := by
  unfold pw lg
  have := Nat.log2_self_le (n := v.toNat) (by omega)
  rw [Int.toNat_natCast]
  omega
theorem lt_pw_lg (v : Int) (h : 1 ≤ v) : v < 2 * pw (lg v) := by
  unfold pw lg
  have := Nat.lt_log2_self (n := v.toNat)
  rw [Int.toNat_natCast]
  rw [Nat.pow_succ] at this
  omega
theorem pw_succ (b : Int) (h : 0 ≤ b) : pw (b + 1) = 2 * pw b := by
  unfold pw
  rw [show (b + 1).toNat = b.toNat + 1 from by omega, Nat.pow_succ]
  omega
theorem pw_mono (a b : Int) (h : a ≤ b) : pw a ≤ pw b := by
  unfold pw
  have := Nat.pow_le_pow_right (n := 2) (by omega) (show a.toNat ≤ b.toNat by omega)
  omega
/-- What is between a power and its double has that power's logarithm. -/
theorem lg_unique (v b : Int) (hb : 0 ≤ b) (h1 : pw b ≤ v) (h2 : v < 2 * pw b) : lg v = b := by
  have hp := pw_pos b
  have h3 := pw_lg_le v (by omega)
  have h4 := lt_pw_lg v (by omega)
  have hl := lg_nonneg v
  rcases Int.lt_trichotomy (lg v) b with h | h | h
  · have := pw_mono (lg v + 1) b (by omega)
    rw [pw_succ _ hl] at this
    omega
  · exact h
  · have := pw_mono (b + 1) (lg v) (by omega)
    rw [pw_succ _ hb] at this
    omega
theorem lg_lt (v b : Int) (_hb : 0 ≤ b) (h1 : 1 ≤ v) (h2 : v < pw b) : lg v < b := by
  have h3 := pw_lg_le v h1
  rcases Int.lt_or_le (lg v) b with h | h
  · exact h
  · have := pw_mono b (lg v) h
    omega

/-- May a token be? -/
def mayB (lit len dist : Int) : Bool :=
  if len = 0 then decide (dist = 0) else decide (lit = 0 ∧ 3 ≤ len ∧ len ≤ 257 ∧ 1 ≤ dist ∧ dist ≤ 4095)

structure Pc where
  sym : Int
  len : Int
  dist : Int
  far : Int
structure Tk where
  lit : Int
  len : Int
  dist : Int

def Pc.val (p : Pc) : Value := .agg #[.int .i64 p.sym, .int .i64 p.len, .int .i64 p.dist, .int .i64 p.far]
def Tk.val (t : Tk) : Value := .agg #[.int .u8 t.lit, .int .i64 t.len, .int .i64 t.dist]

/-- A token's piece, and the error's number. -/
def splitP (t : Tk) : Pc :=
  if mayB t.lit t.len t.dist = true then
    if t.len = 0 then ⟨t.lit, 0, 0, 0⟩ else ⟨257 + lg (t.len - 2), t.len - 2 - pw (lg (t.len - 2)), lg t.dist, t.dist - pw (lg t.dist)⟩
  else ⟨0, 0, 0, 0⟩
def splitE (t : Tk) : Int := if mayB t.lit t.len t.dist = true then 0 else 7

def litB (p : Pc) : Bool := decide (0 ≤ p.sym ∧ p.sym < 256 ∧ p.len = 0 ∧ p.dist = 0 ∧ p.far = 0)
def matchB (p : Pc) : Bool :=
  decide (257 ≤ p.sym ∧ p.sym < 265 ∧ 0 ≤ p.dist ∧ p.dist < 12 ∧ 0 ≤ p.len ∧ p.len < pw (p.sym - 257) ∧ 0 ≤ p.far ∧ p.far < pw p.dist)
def joinT (p : Pc) : Tk :=
  if litB p = true then ⟨p.sym, 0, 0⟩ else if matchB p = true then ⟨0, 2 + pw (p.sym - 257) + p.len, pw p.dist + p.far⟩ else ⟨0, 0, 0⟩
def joinE (p : Pc) : Int := if litB p = true then 0 else if matchB p = true then 0 else 7

theorem pw_8 : pw 8 = 256 := by decide
theorem pw_12 : pw 12 = 4096 := by decide
theorem pw_0 : pw 0 = 1 := by decide
theorem pw_1 : pw 1 = 2 := by decide

theorem join_split (t : Tk) (h0 : 0 ≤ t.lit) (h1 : t.lit < 256) (h : splitE t = 0) : joinE (splitP t) = 0 ∧ joinT (splitP t) = t := by
  have hm : mayB t.lit t.len t.dist = true := by
    unfold splitE at h
    split at h
    · assumption
    · simp at h
  unfold splitP
  rw [if_pos hm]
  by_cases hl : t.len = 0
  · rw [if_pos hl]
    unfold mayB at hm
    rw [if_pos hl] at hm
    have hd : t.dist = 0 := by simpa using hm
    have hlit : litB ⟨t.lit, 0, 0, 0⟩ = true := by simp [litB]; omega
    refine ⟨by simp [joinE, hlit], ?_⟩
    unfold joinT
    rw [if_pos hlit]
    cases t
    simp_all
  · rw [if_neg hl]
    unfold mayB at hm
    rw [if_neg hl] at hm
    obtain ⟨e1, e2, e3, e4, e5⟩ := of_decide_eq_true hm
    have a1 := pw_lg_le (t.len - 2) (by omega)
    have a2 := lt_pw_lg (t.len - 2) (by omega)
    have a3 := lg_nonneg (t.len - 2)
    have a4 := lg_lt (t.len - 2) 8 (by omega) (by omega) (by rw [pw_8]; omega)
    have b1 := pw_lg_le t.dist (by omega)
    have b2 := lt_pw_lg t.dist (by omega)
    have b3 := lg_nonneg t.dist
    have b4 := lg_lt t.dist 12 (by omega) (by omega) (by rw [pw_12]; omega)
    have hs : 257 + lg (t.len - 2) - 257 = lg (t.len - 2) := by omega
    have hlit : litB ⟨257 + lg (t.len - 2), t.len - 2 - pw (lg (t.len - 2)), lg t.dist, t.dist - pw (lg t.dist)⟩ = false := by
      simp [litB]; omega
    have hmat : matchB ⟨257 + lg (t.len - 2), t.len - 2 - pw (lg (t.len - 2)), lg t.dist, t.dist - pw (lg t.dist)⟩ = true := by
      simp only [matchB, hs, decide_eq_true_eq]
      omega
    refine ⟨by simp [joinE, hlit, hmat], ?_⟩
    unfold joinT
    rw [if_neg (by simp [hlit]), if_pos hmat]
    cases t
    simp only [hs]
    simp_all
    omega

theorem split_join (p : Pc) (h : joinE p = 0) : splitE (joinT p) = 0 ∧ splitP (joinT p) = p := by
  unfold joinT
  by_cases hl : litB p = true
  · rw [if_pos hl]
    have := of_decide_eq_true hl
    have hm : mayB p.sym 0 0 = true := by simp [mayB]
    refine ⟨by simp [splitE, hm], ?_⟩
    unfold splitP
    simp only [hm, if_true]
    cases p
    simp_all
  · rw [if_neg hl]
    by_cases hm : matchB p = true
    · rw [if_pos hm]
      obtain ⟨a1, a2, a3, a4, a5, a6, a7, a8⟩ := of_decide_eq_true hm
      have p1 := pw_pos (p.sym - 257)
      have p2 := pw_pos p.dist
      have m1 := pw_mono (p.sym - 257 + 1) 8 (by omega)
      rw [pw_succ _ (by omega), pw_8] at m1
      have m2 := pw_mono (p.dist + 1) 12 (by omega)
      rw [pw_succ _ (by omega), pw_12] at m2
      have l1 : lg (2 + pw (p.sym - 257) + p.len - 2) = p.sym - 257 := lg_unique _ _ (by omega) (by omega) (by omega)
      have l2 : lg (pw p.dist + p.far) = p.dist := lg_unique _ _ (by omega) (by omega) (by omega)
      have hm : mayB 0 (2 + pw (p.sym - 257) + p.len) (pw p.dist + p.far) = true := by
        unfold mayB
        rw [if_neg (by omega)]
        simp
        omega
      refine ⟨by simp [splitE, hm], ?_⟩
      unfold splitP
      simp only [hm, if_true]
      rw [if_neg (by omega), l1, l2]
      cases p
      simp_all
      omega
    · unfold joinE at h
      rw [if_neg hl, if_neg hm] at h
      simp at h
end Go.Proofs.YtidclmmnfienlaaGreatDoor.Toks

namespace Go.Proofs.YtidclmmnfienlaaGreatDoor.Toks

def bump (l : List Int) (i : Nat) : List Int := l.set i (l.getD i 0 + 1)
def cntStep (st : List Int × List Int) (t : Tk) : List Int × List Int :=
  (bump st.1 (splitP t).sym.toNat, if t.len = 0 then st.2 else bump st.2 (splitP t).dist.toNat)
def cnts (ts : List Tk) : List Int × List Int := ts.foldl cntStep (List.replicate 265 0, List.replicate 12 0)
def symsOf (ts : List Tk) : List Int := bump (cnts ts).1 256
def farsOf (ts : List Tk) : List Int := (cnts ts).2
/-- May all be? -/
def allOk (ts : List Tk) : Bool := ts.all fun t => mayB t.lit t.len t.dist

theorem bump_length (l : List Int) (i : Nat) : (bump l i).length = l.length := by simp [bump]
theorem cntStep_length (st : List Int × List Int) (t : Tk) : (cntStep st t).1.length = st.1.length ∧ (cntStep st t).2.length = st.2.length := by
  unfold cntStep
  refine ⟨bump_length _ _, ?_⟩
  simp only
  split
  · rfl
  · exact bump_length _ _
theorem foldl_cnt_length (ts : List Tk) : ∀ st : List Int × List Int, (ts.foldl cntStep st).1.length = st.1.length ∧ (ts.foldl cntStep st).2.length = st.2.length := by
  induction ts with
  | nil => intro st; exact ⟨rfl, rfl⟩
  | cons t ts ih =>
    intro st
    have h := ih (cntStep st t)
    have h2 := cntStep_length st t
    exact ⟨h.1.trans h2.1, h.2.trans h2.2⟩
theorem cnts_length (ts : List Tk) : (cnts ts).1.length = 265 ∧ (cnts ts).2.length = 12 := by
  have h := foldl_cnt_length ts (List.replicate 265 0, List.replicate 12 0)
  exact ⟨h.1.trans List.length_replicate, h.2.trans List.length_replicate⟩
theorem cnts_snoc (ts : List Tk) (k : Nat) (h : k < ts.length) : cnts (ts.take (k + 1)) = cntStep (cnts (ts.take k)) ts[k] := by
  unfold cnts
  rw [List.take_succ_eq_append_getElem h, List.foldl_append]
  rfl
def Within (b : Int) (l : List Int) : Prop := ∀ i, 0 ≤ l.getD i 0 ∧ l.getD i 0 ≤ b
theorem Within.mono {b c : Int} {l : List Int} (h : Within b l) (hbc : b ≤ c) : Within c l := fun i => by have := h i; omega
theorem Within.bump {b : Int} {l : List Int} (h : Within b l) (j : Nat) : Within (b + 1) (bump l j) := by
  intro i
  unfold Toks.bump
  simp only [List.getD_eq_getElem?_getD, List.getElem?_set]
  have hi := h i
  have hj := h j
  simp only [List.getD_eq_getElem?_getD] at hi hj
  split
  · split
    · simp; omega
    · simp; omega
  · omega
theorem cnts_within (ts : List Tk) : Within ts.length (cnts ts).1 ∧ Within ts.length (cnts ts).2 := by
  have key : ∀ (ts : List Tk) (st : List Int × List Int) (b : Int), Within b st.1 → Within b st.2 → Within (b + ts.length) (ts.foldl cntStep st).1 ∧ Within (b + ts.length) (ts.foldl cntStep st).2 := by
    intro ts
    induction ts with
    | nil => intro st b h1 h2; simpa using ⟨h1, h2⟩
    | cons t ts ih =>
      intro st b h1 h2
      have h := ih (cntStep st t) (b + 1) (h1.bump _) (by
        unfold cntStep
        simp only
        split
        · exact h2.mono (by omega)
        · exact h2.bump _)
      simp only [List.length_cons, List.foldl_cons]
      exact ⟨h.1.mono (by omega), h.2.mono (by omega)⟩
  have z : ∀ n : Nat, Within 0 (List.replicate n 0) := by
    intro n i
    simp only [List.getD_eq_getElem?_getD, List.getElem?_replicate]
    split <;> simp
  have h := key ts (List.replicate 265 0, List.replicate 12 0) 0 (z _) (z _)
  rw [Int.zero_add] at h
  exact h

/-- A token's symbols, in numbers. -/
theorem sym_nat (t : Tk) (h0 : 0 ≤ t.lit) (h1 : t.lit ≤ 255) (hm : mayB t.lit t.len t.dist = true) :
    ∃ S D : Nat, ∃ L F : Int, splitP t = ⟨S, L, D, F⟩ ∧ S < 265 ∧ D < 12 ∧ (t.len = 0 → S < 256) ∧ (t.len ≠ 0 → 257 ≤ S ∧ 3 ≤ t.len) ∧ splitE t = 0 := by
  by_cases hl : t.len = 0
  · refine ⟨t.lit.toNat, 0, 0, 0, ?_, by omega, by omega, fun _ => by omega, fun h => absurd hl h, ?_⟩
    · unfold splitP; rw [if_pos hm, if_pos hl, Int.toNat_of_nonneg h0]; rfl
    · unfold splitE; rw [if_pos hm]
  · have hb : t.lit = 0 ∧ 3 ≤ t.len ∧ t.len ≤ 257 ∧ 1 ≤ t.dist ∧ t.dist ≤ 4095 := by
      unfold mayB at hm; rw [if_neg hl] at hm; exact of_decide_eq_true hm
    have a1 := lg_nonneg (t.len - 2)
    have a2 := lg_lt (t.len - 2) 8 (by omega) (by omega) (by rw [pw_8]; omega)
    have b1 := lg_nonneg t.dist
    have b2 := lg_lt t.dist 12 (by omega) (by omega) (by rw [pw_12]; omega)
    refine ⟨(257 + lg (t.len - 2)).toNat, (lg t.dist).toNat, t.len - 2 - pw (lg (t.len - 2)), t.dist - pw (lg t.dist), ?_, by omega, by omega, fun h => absurd h hl, fun _ => ⟨by omega, hb.2.1⟩, ?_⟩
    · unfold splitP
      rw [if_pos hm, if_neg hl, Int.toNat_of_nonneg (by omega), Int.toNat_of_nonneg b1]
    · unfold splitE; rw [if_pos hm]
end Go.Proofs.YtidclmmnfienlaaGreatDoor.Toks

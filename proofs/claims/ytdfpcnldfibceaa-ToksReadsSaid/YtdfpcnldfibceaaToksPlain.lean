/-
  Plain functions for the tokens' pieces, and their laws: no program in sight.
-/
import Derived.WalkKit
namespace Go.Proofs.Ytdfpcnldfibceaa.Toks
open Go.RowKit

/-- The greatest b with 2^b at most v. -/
def lg (v : Int) : Int := ((Nat.log2 v.toNat : Nat) : Int)
def pw (b : Int) : Int := ((2 ^ b.toNat : Nat) : Int)

theorem lg_nonneg (v : Int) : 0 ≤ lg v := by unfold lg; omega
theorem pw_pos (b : Int) : 1 ≤ pw b := by
  unfold pw
  have : 0 < 2 ^ b.toNat := Nat.two_pow_pos _
  omega
theorem pw_lg_le (v : Int) (h : 1 ≤ v) : pw (lg v) ≤ v := by
  unfold pw lg
  have := Nat.log2_self_le (n := v.toNat) (by omega)
  rw [Int.toNat_natCast]
  omega
theorem lt_pw_lg (v : Int) (h : 1 ≤ v) : v < 2 * pw (lg v) := by
  unfold pw lg
  have := Nat.lt_log2_self (n := v.toNat)
  rw [Int.toNat_natCast]
  rw [Nat.pow_succ] at this
  omega
theorem pw_succ (b : Int) (h : 0 ≤ b) : pw (b + 1) = 2 * pw b := by
  unfold pw
  rw [show (b + 1).toNat = b.toNat + 1 from by omega, Nat.pow_succ]
  omega
theorem pw_mono (a b : Int) (h : a ≤ b) : pw a ≤ pw b := by
  unfold pw
  have := Nat.pow_le_pow_right (n := 2) (by omega) (show a.toNat ≤ b.toNat by omega)
  omega
/-- What is between a power and its double has that power's logarithm. -/
theorem lg_unique (v b : Int) (hb : 0 ≤ b) (h1 : pw b ≤ v) (h2 : v < 2 * pw b) : lg v = b := by
  have hp := pw_pos b
  have h3 := pw_lg_le v (by omega)
  have h4 := lt_pw_lg v (by omega)
  have hl := lg_nonneg v
  rcases Int.lt_trichotomy (lg v) b with h | h | h
  · have := pw_mono (lg v + 1) b (by omega)
    rw [pw_succ _ hl] at this
    omega
  · exact h
  · have := pw_mono (b + 1) (lg v) (by omega)
    rw [pw_succ _ hb] at this
    omega
theorem lg_lt (v b : Int) (_hb : 0 ≤ b) (h1 : 1 ≤ v) (h2 : v < pw b) : lg v < b := by
  have h3 := pw_lg_le v h1
  rcases Int.lt_or_le (lg v) b with h | h
  · exact h
  · have := pw_mono b (lg v) h
    omega

/-- May a token be? -/
def mayB (lit len dist : Int) : Bool :=
  if len = 0 then decide (dist = 0) else decide (lit = 0 ∧ 3 ≤ len ∧ len ≤ 257 ∧ 1 ≤ dist ∧ dist ≤ 4095)

structure Pc where
  sym : Int
  len : Int
  dist : Int
  far : Int
structure Tk where
  lit : Int
  len : Int
  dist : Int

def Pc.val (p : Pc) : Value := .agg #[.int .i64 p.sym, .int .i64 p.len, .int .i64 p.dist, .int .i64 p.far]
def Tk.val (t : Tk) : Value := .agg #[.int .u8 t.lit, .int .i64 t.len, .int .i64 t.dist]

/-- A token's piece, and the error's number. -/
def splitP (t : Tk) : Pc :=
  if mayB t.lit t.len t.dist = true then
    if t.len = 0 then ⟨t.lit, 0, 0, 0⟩ else ⟨257 + lg (t.len - 2), t.len - 2 - pw (lg (t.len - 2)), lg t.dist, t.dist - pw (lg t.dist)⟩
  else ⟨0, 0, 0, 0⟩
def splitE (t : Tk) : Int := if mayB t.lit t.len t.dist = true then 0 else 7

def litB (p : Pc) : Bool := decide (0 ≤ p.sym ∧ p.sym < 256 ∧ p.len = 0 ∧ p.dist = 0 ∧ p.far = 0)
def matchB (p : Pc) : Bool :=
  decide (257 ≤ p.sym ∧ p.sym < 265 ∧ 0 ≤ p.dist ∧ p.dist < 12 ∧ 0 ≤ p.len ∧ p.len < pw (p.sym - 257) ∧ 0 ≤ p.far ∧ p.far < pw p.dist)
def joinT (p : Pc) : Tk :=
  if litB p = true then ⟨p.sym, 0, 0⟩ else if matchB p = true then ⟨0, 2 + pw (p.sym - 257) + p.len, pw p.dist + p.far⟩ else ⟨0, 0, 0⟩
def joinE (p : Pc) : Int := if litB p = true then 0 else if matchB p = true then 0 else 7

theorem pw_8 : pw 8 = 256 := by decide
theorem pw_12 : pw 12 = 4096 := by decide
theorem pw_0 : pw 0 = 1 := by decide
theorem pw_1 : pw 1 = 2 := by decide

theorem join_split (t : Tk) (h0 : 0 ≤ t.lit) (h1 : t.lit < 256) (h : splitE t = 0) : joinE (splitP t) = 0 ∧ joinT (splitP t) = t := by
  have hm : mayB t.lit t.len t.dist = true := by
    unfold splitE at h
    split at h
    · assumption
    · simp at h
  unfold splitP
  rw [if_pos hm]
  by_cases hl : t.len = 0
  · rw [if_pos hl]
    unfold mayB at hm
    rw [if_pos hl] at hm
    have hd : t.dist = 0 := by simpa using hm
    have hlit : litB ⟨t.lit, 0, 0, 0⟩ = true := by simp [litB]; omega
    refine ⟨by simp [joinE, hlit], ?_⟩
    unfold joinT
    rw [if_pos hlit]
    cases t
    simp_all
  · rw [if_neg hl]
    unfold mayB at hm
    rw [if_neg hl] at hm
    obtain ⟨e1, e2, e3, e4, e5⟩ := of_decide_eq_true hm
    have a1 := pw_lg_le (t.len - 2) (by omega)
    have a2 := lt_pw_lg (t.len - 2) (by omega)
    have a3 := lg_nonneg (t.len - 2)
    have a4 := lg_lt (t.len - 2) 8 (by omega) (by omega) (by rw [pw_8]; omega)
    have b1 := pw_lg_le t.dist (by omega)
    have b2 := lt_pw_lg t.dist (by omega)
    have b3 := lg_nonneg t.dist
    have b4 := lg_lt t.dist 12 (by omega) (by omega) (by rw [pw_12]; omega)
    have hs : 257 + lg (t.len - 2) - 257 = lg (t.len - 2) := by omega
    have hlit : litB ⟨257 + lg (t.len - 2), t.len - 2 - pw (lg (t.len - 2)), lg t.dist, t.dist - pw (lg t.dist)⟩ = false := by
      simp [litB]; omega
    have hmat : matchB ⟨257 + lg (t.len - 2), t.len - 2 - pw (lg (t.len - 2)), lg t.dist, t.dist - pw (lg t.dist)⟩ = true := by
      simp only [matchB, hs, decide_eq_true_eq]
      omega
    refine ⟨by simp [joinE, hlit, hmat], ?_⟩
    unfold joinT
    rw [if_neg (by simp [hlit]), if_pos hmat]
    cases t
    simp only [hs]
    simp_all
    omega

theorem split_join (p : Pc) (h : joinE p = 0) : splitE (joinT p) = 0 ∧ splitP (joinT p) = p := by
  unfold joinT
  by_cases hl : litB p = true
  · rw [if_pos hl]
    have := of_decide_eq_true hl
    have hm : mayB p.sym 0 0 = true := by simp [mayB]
    refine ⟨by simp [splitE, hm], ?_⟩
    unfold splitP
    simp only [hm, if_true]
    cases p
    simp_all
  · rw [if_neg hl]
    by_cases hm : matchB p = true
    · rw [if_pos hm]
      obtain ⟨a1, a2, a3, a4, a5, a6, a7, a8⟩ := of_decide_eq_true hm
      have p1 := pw_pos (p.sym - 257)
      have p2 := pw_pos p.dist
      have m1 := pw_mono (p.sym - 257 + 1) 8 (by omega)
      rw [pw_succ _ (by omega), pw_8] at m1
      have m2 := pw_mono (p.dist + 1) 12 (by omega)
      rw [pw_succ _ (by omega), pw_12] at m2
      have l1 : lg (2 + pw (p.sym - 257) + p.len - 2) = p.sym - 257 := lg_unique _ _ (by omega) (by omega) (by omega)
      have l2 : lg (pw p.dist + p.far) = p.dist := lg_unique _ _ (by omega) (by omega) (by omega)
      have hm : mayB 0 (2 + pw (p.sym - 257) + p.len) (pw p.dist + p.far) = true := by
        unfold mayB
        rw [if_neg (by omega)]
        simp
        omega
      refine ⟨by simp [splitE, hm], ?_⟩
      unfold splitP
      simp only [hm, if_true]
      rw [if_neg (by omega), l1, l2]
      cases p
      simp_all
      omega
    · unfold joinE at h
      rw [if_neg hl, if_neg hm] at h
      simp at h
end Go.Proofs.Ytdfpcnldfibceaa.Toks

/-
  Plain: bits that are turned in bytes, side by side, and the sum behind them. No walk.
-/
import Derived.Test.YtidclmmnfienlaaGreatDoorCrcAll
namespace Go.Proofs.YtidclmmnfienlaaGreatDoor.Crc

theorem pow_xor (n a b : Nat) : 2 ^ n * (a ^^^ b) = 2 ^ n * a ^^^ 2 ^ n * b := by
  apply Nat.eq_of_testBit_eq
  intro i
  rw [Nat.testBit_xor]
  simp only [Nat.testBit_two_pow_mul, Nat.testBit_xor]
  by_cases h : n ≤ i <;> simp [h]
theorem leN_set {m : Nat} (hm : m < 256) : ∀ {l : List Nat} {j : Nat}, (∀ c ∈ l, c < 256) → j < l.length → leN (l.set j (l.getD j 0 ^^^ m)) = leN l ^^^ 2 ^ (8 * j) * m
  | [], _, _, hj => by simp at hj
  | c :: l, 0, h, _ => by
    have hc := h c (by simp)
    have hx : c ^^^ m < 256 := Nat.xor_lt_two_pow (n := 8) hc hm
    rw [List.set_cons_zero, List.getD_cons_zero, leN_cons _ _ hx, leN_cons _ _ hc]
    simp only [Nat.mul_zero, Nat.pow_zero, Nat.one_mul]
    rw [Nat.xor_assoc, Nat.xor_comm m, ← Nat.xor_assoc]
  | c :: l, j + 1, h, hj => by
    have hc := h c (by simp)
    rw [List.set_cons_succ, List.getD_cons_succ, leN_cons _ _ hc, leN_cons _ _ hc, leN_set hm (fun d hd => h d (by simp [hd])) (by simpa using hj), pow_xor, ← Nat.xor_assoc]
    rw [show 8 * (j + 1) = 8 + 8 * j by omega, Nat.pow_add, Nat.mul_assoc]
/-- Bytes of which k places from `first` on may be turned. -/
def Tn (F : List Nat) (fr first k : Nat) (X : List Nat) (t : Bool) : Prop :=
  X.length = F.length ∧ (∀ x ∈ X, x ≤ 255) ∧ X.take fr = F.take fr ∧ ∃ d, d < 2 ^ k ∧ leN X = leN F ^^^ 2 ^ first * d ∧ t = decide (d ≠ 0)
theorem Tn.zero {F : List Nat} (fr first : Nat) (h8 : ∀ x ∈ F, x ≤ 255) : Tn F fr first 0 F false := ⟨rfl, h8, rfl, 0, by simp, by simp, by simp⟩
theorem Tn.skip {F X : List Nat} {fr first k : Nat} {t : Bool} (h : Tn F fr first k X t) : Tn F fr first (k + 1) X t := by
  obtain ⟨h1, h2, h3, d, h4, h5, h6⟩ := h
  exact ⟨h1, h2, h3, d, by rw [Nat.pow_succ]; omega, h5, h6⟩
theorem Tn.flip {F X : List Nat} {fr first k j r : Nat} {t : Bool} (h : Tn F fr first k X t) (hj : first + k = 8 * j + r) (hr : r < 8) (hl : j < X.length) (hf : 8 * fr ≤ first) :
    Tn F fr first (k + 1) (X.set j (X.getD j 0 ^^^ 2 ^ r)) true := by
  obtain ⟨h1, h2, h3, d, h4, h5, _⟩ := h
  have hm : 2 ^ r < 256 := by have : 2 ^ r < 2 ^ 8 := Nat.pow_lt_pow_right (by omega) hr; exact this
  refine ⟨by rw [List.length_set, h1], ?_, ?_, 2 ^ k + d, by rw [Nat.pow_succ]; omega, ?_, by simp⟩
  · intro x hx
    rcases List.mem_or_eq_of_mem_set hx with hx | rfl
    · exact h2 x hx
    · have hg : X.getD j 0 < 256 := by
        rw [List.getD_eq_getElem?_getD, List.getElem?_eq_getElem hl]
        have := h2 _ (List.getElem_mem hl)
        simp only [Option.getD_some]; omega
      have : X.getD j 0 ^^^ 2 ^ r < 256 := Nat.xor_lt_two_pow (n := 8) hg hm
      omega
  · rw [List.take_set_of_le (by omega), h3]
  · rw [leN_set hm (fun c hc => by have := h2 c hc; omega) hl, h5, Nat.xor_assoc]
    congr 1
    have e1 : 2 ^ k + d = 2 ^ k ^^^ d := by
      have := low_or_xor k 1 d h4
      rwa [Nat.mul_one] at this
    rw [e1, pow_xor, ← Nat.pow_add 2 first k, hj, Nat.pow_add, Nat.xor_comm]
/-- Bytes and their sum, turned: the sum isn't right. -/
theorem Tn.sum {a X : List Nat} {fr first k : Nat} (h8 : ∀ x ∈ a, x ≤ 255) (hk : k ≤ 32) (h : Tn (a ++ tailN (sumN a)) fr first k X true) :
    X.drop (X.length - 4) ≠ tailN (sumN (X.take (X.length - 4))) := by
  obtain ⟨h1, h2, _, d, h4, h5, h6⟩ := h
  have hd : d ≠ 0 := by simpa using h6.symm
  have hl : X.length = a.length + 4 := by rw [h1, List.length_append]; rfl
  have hp : 2 ^ k ≤ 2 ^ 32 := Nat.pow_le_pow_right (by omega) hk
  refine turned (a := a) (k := first) (d := d) (fun c hc => by have := h8 c hc; omega) (fun c hc => by have := h2 c (List.mem_of_mem_take hc); omega) (by rw [List.length_take]; omega) (by omega) hd ?_
  rw [List.take_append_drop]
  exact h5
end Go.Proofs.YtidclmmnfienlaaGreatDoor.Crc

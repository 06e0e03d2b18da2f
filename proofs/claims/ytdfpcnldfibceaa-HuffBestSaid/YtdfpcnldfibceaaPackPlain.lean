/-
  Words of a code and the bits that they are written with: the plain part.
-/
import Derived.Test.YtdfpcnldfibceaaBitsPlain
namespace Go.Proofs.Ytdfpcnldfibceaa.Huff
open Go.Proofs.Ytdfpcnldfibceaa.Canon

/-- The first k bits of a number of n bits, the highest first. -/
def msb (x n k : Nat) : List Bool := (List.range k).map fun j => decide (x / 2 ^ (n - 1 - j) % 2 = 1)
theorem msb_length (x n k : Nat) : (msb x n k).length = k := by simp [msb]
theorem msb_zero (x n : Nat) : msb x n 0 = [] := rfl
theorem msb_succ (x n k : Nat) : msb x n (k + 1) = msb x n k ++ [decide (x / 2 ^ (n - 1 - k) % 2 = 1)] := by
  simp [msb, List.range_succ]
/-- The bits of a symbol's word. -/
def word (ls : List Nat) (s : Nat) : List Bool := msb (code ls s) (ls.getD s 0) (ls.getD s 0)
theorem word_length (ls : List Nat) (s : Nat) : (word ls s).length = ls.getD s 0 := msb_length _ _ _
/-- The bits of the first k symbols. -/
def packed (ls : List Nat) (ss : List Int) : List Bool := ss.flatMap fun s => word ls s.toNat
theorem packed_nil (ls : List Nat) : packed ls [] = [] := rfl
theorem packed_snoc (ls : List Nat) (ss : List Int) (s : Int) : packed ls (ss ++ [s]) = packed ls ss ++ word ls s.toNat := by simp [packed]
theorem packed_length (ls : List Nat) (h : ∀ x ∈ ls, x ≤ 15) : ∀ ss : List Int, (packed ls ss).length ≤ 15 * ss.length
  | [] => by simp [packed]
  | s :: ss => by
    have h1 := packed_length ls h ss
    have h2 : ls.getD s.toNat 0 ≤ 15 := by
      rw [List.getD_eq_getElem?_getD]
      by_cases k : s.toNat < ls.length
      · rw [List.getElem?_eq_getElem k, Option.getD_some]
        exact h _ (List.getElem_mem k)
      · rw [List.getElem?_eq_none (by omega)]
        simp
    unfold packed at h1 ⊢
    rw [List.flatMap_cons, List.length_append, word_length, List.length_cons]
    omega

/-- The places of a byte, one behind the other. -/
def accB (bs : List Bool) (i : Nat) : Nat → Nat
  | 0 => 0
  | m + 1 => 2 * accB bs i m + bit bs (i + m)
theorem accB_byte (bs : List Bool) (k : Nat) : accB bs (8 * k) 8 = byteAt bs k := by
  simp only [accB, byteAt]
  have e : 8 * k + 0 = 8 * k := rfl
  rw [e]
  omega
theorem accB_lt (bs : List Bool) (i : Nat) : ∀ m, accB bs i m < 2 ^ m
  | 0 => by simp [accB]
  | m + 1 => by
    have h1 := accB_lt bs i m
    have h2 := bit_le bs (i + m)
    rw [accB, Nat.pow_succ]
    omega

/-! ### The words' numbers fit -/
theorem fst_wsum (ls : List Nat) : ∀ l, l ≤ 15 → (fst ls l + cn ls l) * 2 ^ (15 - l) = wsum ls (l + 1)
  | 0, _ => by simp [fst, cn, wsum]
  | l + 1, h => by
    have h1 := fst_wsum ls l (by omega)
    have e : 15 - l = (15 - (l + 1)) + 1 := by omega
    rw [wsum, ← h1, fst, e, Nat.pow_succ, Nat.add_mul]
    congr 1
    rw [Nat.mul_comm 2, Nat.mul_assoc, Nat.mul_comm 2]
theorem fst_wsum' (ls : List Nat) (l : Nat) (h : l ≤ 15) : fst ls l * 2 ^ (15 - l) = wsum ls l := by
  have h1 := fst_wsum ls l h
  rw [wsum, Nat.add_mul] at h1
  omega
theorem wsum_mono (ls : List Nat) {a : Nat} : ∀ {b : Nat}, a ≤ b → wsum ls a ≤ wsum ls b
  | 0, h => by
    obtain rfl : a = 0 := by omega
    exact Nat.le_refl _
  | b + 1, h => by
    by_cases e : a = b + 1
    · subst e; exact Nat.le_refl _
    · have := wsum_mono ls (a := a) (b := b) (by omega)
      rw [wsum]
      omega
theorem ok_parts {ls : List Nat} (h : okB ls = true) : ls.length ≤ 300 ∧ (∀ x ∈ ls, x ≤ 15) ∧ wsum ls 16 ≤ 32768 := by
  unfold okB at h
  simp only [Bool.and_eq_true, Bool.or_eq_true, decide_eq_true_eq, List.all_eq_true] at h
  obtain ⟨⟨h1, h2⟩, h3⟩ := h
  refine ⟨h1, h2, ?_⟩
  have hk := wsum_kraft ls h2
  have hu := wnum_used ls h2
  rcases h3 with (h3 | ⟨h3, h4⟩) | h3
  · rw [h3] at hu
    simp only [wnum] at hu
    simp only [wsum]
    have e0 : cn ls 0 = 0 := by simp [cn]
    have e : ∀ l, l < 16 → cn ls l = 0 := by
      intro l hl
      have : l = 0 ∨ l = 1 ∨ l = 2 ∨ l = 3 ∨ l = 4 ∨ l = 5 ∨ l = 6 ∨ l = 7 ∨ l = 8 ∨ l = 9 ∨ l = 10 ∨ l = 11 ∨ l = 12 ∨ l = 13 ∨ l = 14 ∨ l = 15 := by omega
      rcases this with rfl | rfl | rfl | rfl | rfl | rfl | rfl | rfl | rfl | rfl | rfl | rfl | rfl | rfl | rfl | rfl <;> omega
    simp [e]
  · have e1 : cn ls 1 = 1 := by unfold cn; rw [if_neg (by omega), h4]
    rw [h3] at hu
    simp only [wnum] at hu
    simp only [wsum]
    have e : ∀ l, l < 16 → l ≠ 1 → cn ls l = 0 := by
      intro l hl hl1
      have : l = 0 ∨ l = 1 ∨ l = 2 ∨ l = 3 ∨ l = 4 ∨ l = 5 ∨ l = 6 ∨ l = 7 ∨ l = 8 ∨ l = 9 ∨ l = 10 ∨ l = 11 ∨ l = 12 ∨ l = 13 ∨ l = 14 ∨ l = 15 := by omega
      rcases this with rfl | rfl | rfl | rfl | rfl | rfl | rfl | rfl | rfl | rfl | rfl | rfl | rfl | rfl | rfl | rfl <;> omega
    simp [e, e1]
  · omega
theorem cnt_take_lt {ls : List Nat} {s x : Nat} (hx : ls[s]? = some x) : cnt (ls.take s) x + 1 ≤ cnt ls x := by
  have h1 : cnt (ls.take (s + 1)) x = cnt (ls.take s) x + 1 := by rw [take_snoc hx, cnt_snoc, if_pos rfl]
  have h2 : cnt (ls.take (s + 1)) x ≤ cnt ls x := by
    unfold cnt
    conv => rhs; rw [← List.take_append_drop (s + 1) ls, List.countP_append]
    omega
  omega
theorem code_of {ls : List Nat} {s x : Nat} (hx : ls[s]? = some x) (h0 : x ≠ 0) : code ls s = fst ls x + cnt (ls.take s) x := by
  unfold code
  simp [List.getD_eq_getElem?_getD, hx, h0]
/-- A word's place: it lies within the words of its length. -/
theorem code_in {ls : List Nat} {s x : Nat} (hx : ls[s]? = some x) (h0 : x ≠ 0) (h15 : x ≤ 15) :
    wsum ls x ≤ code ls s * 2 ^ (15 - x) ∧ (code ls s + 1) * 2 ^ (15 - x) ≤ wsum ls (x + 1) := by
  have h1 := code_of hx h0
  have h2 := cnt_take_lt hx
  constructor
  · rw [← fst_wsum' ls x h15]
    exact Nat.mul_le_mul_right _ (by omega)
  · rw [← fst_wsum ls x h15]
    refine Nat.mul_le_mul_right _ ?_
    unfold cn
    rw [if_neg h0]
    omega
theorem code_lt {ls : List Nat} (hok : okB ls = true) {s x : Nat} (hx : ls[s]? = some x) (h0 : x ≠ 0) : code ls s < 2 ^ x := by
  obtain ⟨_, h2, h3⟩ := ok_parts hok
  have h15 := h2 x (List.mem_of_getElem? hx)
  have h4 := (code_in hx h0 h15).2
  have h5 := wsum_mono ls (show x + 1 ≤ 16 by omega)
  have h6 : (code ls s + 1) * 2 ^ (15 - x) ≤ 2 ^ x * 2 ^ (15 - x) := by
    rw [← Nat.pow_add, show x + (15 - x) = 15 by omega]
    omega
  exact Nat.le_of_mul_le_mul_right h6 (Nat.two_pow_pos _)
theorem one_bit (y : Nat) : ((if decide (y % 2 = 1) = true then 1 else 0 : Nat) : Int) = ((y % 2 : Nat) : Int) := by
  rcases Nat.mod_two_eq_zero_or_one y with h | h <;> simp [h]
end Go.Proofs.Ytdfpcnldfibceaa.Huff

/-
  Lengths of words, how many there are of each, their weight, the words: plain functions and their laws.
-/
import Derived.Test.YtdfpcnldfibceaaMem
namespace Go.Proofs.Ytdfpcnldfibceaa.Canon
open Go.RowKit Go.Proofs.Ytdfpcnldfibceaa.Mem

/-- How many words have length l; none has length 0. -/
def cnt (ls : List Nat) (l : Nat) : Nat := ls.countP (fun x => decide (x = l))
def cn (ls : List Nat) (l : Nat) : Nat := if l = 0 then 0 else cnt ls l
theorem cnt_nil (l : Nat) : cnt [] l = 0 := rfl
theorem cnt_snoc (ls : List Nat) (x l : Nat) : cnt (ls ++ [x]) l = cnt ls l + if x = l then 1 else 0 := by
  unfold cnt
  rw [List.countP_append]
  by_cases h : x = l <;> simp [h]
theorem cnt_le (ls : List Nat) (l : Nat) : cnt ls l ≤ ls.length := List.countP_le_length
theorem cn_le (ls : List Nat) (l : Nat) : cn ls l ≤ ls.length := by
  unfold cn; split
  · omega
  · exact cnt_le ls l
theorem take_snoc {α : Type} {l : List α} {k : Nat} {x : α} (h : l[k]? = some x) : l.take (k + 1) = l.take k ++ [x] := by
  rw [List.take_add_one, h]; rfl

/-- The weight, and how many words there are, of lengths below l. -/
def wsum (ls : List Nat) : Nat → Nat
  | 0 => 0
  | l + 1 => wsum ls l + cn ls l * 2 ^ (15 - l)
def wnum (ls : List Nat) : Nat → Nat
  | 0 => 0
  | l + 1 => wnum ls l + cn ls l
theorem wsum_le (ls : List Nat) : ∀ l, wsum ls l ≤ l * (ls.length * 32768)
  | 0 => by simp [wsum]
  | l + 1 => by
    have h1 := wsum_le ls l
    have h2 := cn_le ls l
    have h3 : 2 ^ (15 - l) ≤ 2 ^ 15 := Nat.pow_le_pow_right (by omega) (by omega)
    have h4 : cn ls l * 2 ^ (15 - l) ≤ ls.length * 32768 := Nat.mul_le_mul h2 h3
    rw [wsum, Nat.add_mul]
    omega
theorem wnum_le (ls : List Nat) : ∀ l, wnum ls l ≤ l * ls.length
  | 0 => by simp [wnum]
  | l + 1 => by
    have h1 := wnum_le ls l
    have h2 := cn_le ls l
    rw [wnum, Nat.add_mul]
    omega

/-- The same, word by word. -/
def kraft (ls : List Nat) : Nat := (ls.map fun x => if x = 0 then 0 else 2 ^ (15 - x)).sum
def used (ls : List Nat) : Nat := ls.countP (fun x => decide (x ≠ 0))
theorem cn_cons (x : Nat) (ls : List Nat) (l : Nat) : cn (x :: ls) l = cn ls l + if x ≠ 0 ∧ x = l then 1 else 0 := by
  unfold cn cnt
  by_cases hl : l = 0
  · subst hl
    simp
  · rw [if_neg hl, if_neg hl, List.countP_cons]
    by_cases hx : x = l
    · simp [hx, hl]
    · simp [hx]
theorem wsum_nil : ∀ l, wsum [] l = 0
  | 0 => rfl
  | l + 1 => by rw [wsum, wsum_nil l]; simp [cn, cnt_nil]
theorem wnum_nil : ∀ l, wnum [] l = 0
  | 0 => rfl
  | l + 1 => by rw [wnum, wnum_nil l]; simp [cn, cnt_nil]
theorem wsum_cons (x : Nat) (ls : List Nat) : ∀ l, wsum (x :: ls) l = wsum ls l + if x ≠ 0 ∧ x < l then 2 ^ (15 - x) else 0
  | 0 => by simp [wsum]
  | l + 1 => by
    rw [wsum, wsum_cons x ls l, wsum, cn_cons, Nat.add_mul]
    by_cases h0 : x = 0
    · simp [h0]
    · by_cases h1 : x = l
      · subst h1
        simp [h0]; omega
      · by_cases h2 : x < l
        · have : x < l + 1 := by omega
          simp [h0, h1, h2, this]; omega
        · have : ¬ x < l + 1 := by omega
          simp [h1, h2, this]
theorem wnum_cons (x : Nat) (ls : List Nat) : ∀ l, wnum (x :: ls) l = wnum ls l + if x ≠ 0 ∧ x < l then 1 else 0
  | 0 => by simp [wnum]
  | l + 1 => by
    rw [wnum, wnum_cons x ls l, wnum, cn_cons]
    by_cases h0 : x = 0
    · simp [h0]
    · by_cases h1 : x = l
      · subst h1
        simp [h0]; omega
      · by_cases h2 : x < l
        · have : x < l + 1 := by omega
          simp [h0, h1, h2, this]; omega
        · have : ¬ x < l + 1 := by omega
          simp [h1, h2, this]
theorem wsum_kraft : ∀ (ls : List Nat), (∀ x ∈ ls, x ≤ 15) → wsum ls 16 = kraft ls
  | [], _ => by rw [wsum_nil]; rfl
  | x :: ls, h => by
    have h1 := h x (by simp)
    rw [wsum_cons, wsum_kraft ls (fun y hy => h y (by simp [hy]))]
    unfold kraft
    rw [List.map_cons, List.sum_cons]
    by_cases h0 : x = 0
    · simp [h0]
    · have : x < 16 := by omega
      simp [h0, this]; omega
theorem wnum_used : ∀ (ls : List Nat), (∀ x ∈ ls, x ≤ 15) → wnum ls 16 = used ls
  | [], _ => by rw [wnum_nil]; rfl
  | x :: ls, h => by
    have h1 := h x (by simp)
    rw [wnum_cons, wnum_used ls (fun y hy => h y (by simp [hy]))]
    unfold used
    rw [List.countP_cons]
    by_cases h0 : x = 0
    · simp [h0]
    · have : x < 16 := by omega
      simp [h0, this]

/-- May these be the lengths of a code's words? -/
def okB (ls : List Nat) : Bool := decide (ls.length ≤ 300) && ls.all (fun x => decide (x ≤ 15)) && (decide (used ls = 0) || decide (used ls = 1 ∧ cnt ls 1 = 1) || decide (kraft ls = 32768))

/-- The number of the first word of each length. -/
def fst (ls : List Nat) : Nat → Nat
  | 0 => 0
  | l + 1 => 2 * (fst ls l + cn ls l)
/-- The word of symbol s. -/
def code (ls : List Nat) (s : Nat) : Nat := let x := ls.getD s 0; if x = 0 then 0 else fst ls x + cnt (ls.take s) x
def codes (ls : List Nat) : List Nat := (List.range ls.length).map (code ls)
theorem codes_length (ls : List Nat) : (codes ls).length = ls.length := by simp [codes]
theorem fst_le (ls : List Nat) : ∀ l, fst ls l + 2 * ls.length ≤ 2 ^ (l + 1) * ls.length
  | 0 => by simp [fst]
  | l + 1 => by
    have h1 := fst_le ls l
    have h2 := cn_le ls l
    have h3 : 2 ^ (l + 1 + 1) * ls.length = 2 * (2 ^ (l + 1) * ls.length) := by rw [Nat.pow_succ 2 (l + 1), Nat.mul_comm (2 ^ (l + 1)) 2, Nat.mul_assoc]
    rw [fst, h3]
    omega

/-- A slice's numbers, of kind k, as cells. -/
def numF (k : IntKind) (l : List Nat) : Nat → Nat → Value := fun i _ => .int k (l.getD i 0 : Nat)
/-- Sixteen cells of counts. -/
def Cnts (f : Nat → Nat) (n : Nat) (arr : Array Value) : Prop := arr.size = n ∧ ∀ l, l < n → arr[l]? = some (.int .i64 (f l))
theorem Cnts.set {f g : Nat → Nat} {n : Nat} {arr : Array Value} {x v : Nat} (h : Cnts f n arr) (hv : g x = v) (ho : ∀ l, l ≠ x → g l = f l) : Cnts g n (arr.setIfInBounds x (.int .i64 (v : Nat))) := by
  refine ⟨by rw [Array.size_setIfInBounds]; exact h.1, fun l hl => ?_⟩
  rw [Array.getElem?_setIfInBounds]
  by_cases e : x = l
  · subst e
    rw [if_pos rfl, if_pos (by have := h.1; omega), hv]
  · rw [if_neg e, h.2 l hl, ho l (Ne.symm e)]
end Go.Proofs.Ytdfpcnldfibceaa.Canon

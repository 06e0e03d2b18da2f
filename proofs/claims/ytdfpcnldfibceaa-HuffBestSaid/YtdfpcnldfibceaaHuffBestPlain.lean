/-
  Plain: by the lengths that are found for how often symbols are, what is packed has no more bits than by other ones (chapter 9).
-/
import Derived.Test.YtdfpcnldfibceaaLensFacts
import Derived.Test.YtdfpcnldfibceaaPackPlain
import Derived.Test.YtdfpcnldfibceaaRefCheck
namespace Go.Proofs.Ytdfpcnldfibceaa.Lens
open Go.Proofs.Ytdfpcnldfibceaa.Srt Go.Proofs.Ytdfpcnldfibceaa.Canon

/-- How often each of n symbols is. -/
def often (n : Nat) (ss : List Nat) : List Nat := (List.range n).map fun s => ss.count s
theorem often_length (n : Nat) (ss : List Nat) : (often n ss).length = n := by simp [often]
theorem kOf_often {n : Nat} {ss : List Nat} {s : Nat} (h : s < n) : kOf (often n ss) s = ss.count s := range_getD h
theorem often_E {n : Nat} (hn : n ≤ 256) (ss : List Nat) : lensE (often n ss) 15 = 0 := by
  unfold lensE
  rw [often_length, if_neg (by omega), if_neg]
  have h := order_length (kOf (often n ss)) n
  show ¬ 2 ^ (15 : Int).toNat < (order (kOf (often n ss)) n).length
  have : (2 : Nat) ^ (15 : Int).toNat = 32768 := by decide
  omega
/-- How many bits symbols have. -/
def bitsOf (ls ss : List Nat) : Nat := (ss.map fun s => ls.getD s 0).sum
theorem bitsOf_snoc (ls ss : List Nat) (x : Nat) : bitsOf ls (ss ++ [x]) = bitsOf ls ss + ls.getD x 0 := by simp [bitsOf]
theorem sum_zero : ∀ l : List Nat, (l.map fun _ => 0).sum = 0
  | [] => rfl
  | _ :: t => by rw [List.map_cons, List.sum_cons, sum_zero t]
theorem sum_step (f : Nat → Nat) (x : Nat) (t : List Nat) : ∀ n, ((List.range n).map fun s => (x :: t).count s * f s).sum = (if x < n then f x else 0) + ((List.range n).map fun s => t.count s * f s).sum := by
  intro n
  induction n with
  | zero => simp
  | succ n ih =>
    rw [List.range_succ, List.map_append, List.map_append, List.sum_append, List.sum_append, ih]
    simp only [List.map_cons, List.map_nil, List.sum_cons, List.sum_nil, Nat.add_zero, List.count_cons]
    by_cases e : x = n
    · subst e
      have a1 : (if x < x then f x else 0) = 0 := if_neg (Nat.lt_irrefl x)
      have a2 : (if x < x + 1 then f x else 0) = f x := if_pos (Nat.lt_succ_self x)
      have a3 : (if (x == x) = true then 1 else 0) = 1 := if_pos (by simp)
      rw [a1, a2, a3, Nat.add_mul, Nat.one_mul, Nat.zero_add]
      omega
    · have a3 : (if (x == n) = true then 1 else 0) = 0 := if_neg (by simpa using e)
      have a1 : (if x < n + 1 then f x else 0) = (if x < n then f x else 0) := by
        by_cases e3 : x < n
        · rw [if_pos e3, if_pos (by omega)]
        · rw [if_neg e3, if_neg (by omega)]
      rw [a3, a1, Nat.add_zero, Nat.add_assoc]
theorem sum_count (n : Nat) (f : Nat → Nat) : ∀ (ss : List Nat), (∀ x ∈ ss, x < n) → ((List.range n).map fun s => ss.count s * f s).sum = (ss.map f).sum
  | [], _ => by
    have : ((List.range n).map fun s => ([] : List Nat).count s * f s) = (List.range n).map fun _ => 0 := List.map_congr_left fun s _ => by simp
    rw [this, sum_zero]
    rfl
  | x :: t, h => by
    have hx := h x (by simp)
    have ih := sum_count n f t fun y hy => h y (List.mem_cons_of_mem _ hy)
    rw [List.map_cons, List.sum_cons, ← ih, sum_step, if_pos hx]
theorem cost_bits {n : Nat} (ls : List Nat) {ss : List Nat} (h : ∀ x ∈ ss, x < n) : costV (often n ss) ls = bitsOf ls ss := by
  unfold costV bitsOf
  rw [often_length, ← sum_count n (fun s => ls.getD s 0) ss h]
  congr 1
  refine List.map_congr_left fun s hs => ?_
  rw [List.mem_range] at hs
  rw [show (often n ss).getD s 0 = ss.count s from range_getD hs]
theorem good_lens {n : Nat} (hn : n ≤ 256) (ss : List Nat) : goodB (lensO (often n ss) 15) = true := by
  have hE := often_E hn ss
  refine good_all (by rw [lensO_length hE, often_length]; omega) fun x hx => ?_
  obtain ⟨hn, L, hL, h1, h2, h3, e⟩ := ok_parts hE
  rw [e] at hx
  obtain ⟨s, _, rfl⟩ := List.mem_map.1 hx
  by_cases hm : s ∈ order (kOf (often n ss)) (often n ss).length
  · have := (lenS_in h1 h3 hm).2; omega
  · rw [lenS_out hm]; omega
/-- The lengths that are found make a coder. -/
theorem ok_lens {n : Nat} (hn : n ≤ 256) (ss : List Nat) : okB (lensO (often n ss) 15) = true := by
  have hE := often_E hn ss
  have hg := good_lens hn ss
  have hu := used_count hE
  have hk := kraft_lens hE
  have hc := checkE_ref hg
  have h0 : checkE (lensO (often n ss) 15) = 0 := by
    rw [hc, if_pos]
    by_cases q0 : (order (kOf (often n ss)) (often n ss).length).length = 0
    · left; unfold Canon.used; rw [hu, q0]
    · by_cases q1 : (order (kOf (often n ss)) (often n ss).length).length = 1
      · right; left
        refine ⟨by unfold Canon.used; rw [hu, q1], ?_⟩
        have : cnt (lensO (often n ss) 15) 1 = (lensO (often n ss) 15).countP (fun x => decide (x ≠ 0)) := by
          unfold cnt
          refine List.countP_congr fun x hx => ?_
          obtain ⟨hn2, L, hL, h1, h2, h3, e⟩ := ok_parts hE
          rw [e] at hx
          obtain ⟨s, _, rfl⟩ := List.mem_map.1 hx
          have hle : lenS (often n ss) L s ≤ 1 := by
            unfold lenS
            rw [if_pos (by omega)]
            split <;> omega
          simp
          omega
        rw [this, hu, q1]
      · right; right
        rw [hk, if_neg q0, if_neg q1]
  unfold checkE at h0
  split at h0
  · assumption
  · cases h0
theorem ok_kraft {ls : List Nat} (h : okB ls = true) : kraft ls ≤ 32768 := by
  obtain ⟨h1, h2, h3⟩ := Go.Proofs.Ytdfpcnldfibceaa.Huff.ok_parts h
  rw [wsum_kraft ls h2] at h3
  exact h3
theorem lens_bits {n : Nat} (hn : n ≤ 256) {ss ls : List Nat} (hs : ∀ x ∈ ss, x < n) (hok : okB ls = true) (hlen : ls.length ≤ n) (hin : ∀ x ∈ ss, ls.getD x 0 ≠ 0) : bitsOf (lensO (often n ss) 15) ss ≤ bitsOf ls ss := by
  obtain ⟨h1, h2, h3⟩ := Go.Proofs.Ytdfpcnldfibceaa.Huff.ok_parts hok
  have hE := often_E hn ss
  have hkr := ok_kraft hok
  obtain ⟨pad, hpad⟩ : ∃ pad, pad = ls ++ List.replicate (n - ls.length) 0 := ⟨_, rfl⟩
  have hg : ∀ s, pad.getD s 0 = ls.getD s 0 := by
    intro s
    rw [hpad, List.getD_eq_getElem?_getD, List.getD_eq_getElem?_getD, List.getElem?_append]
    split
    · rfl
    · rename_i hge
      rw [List.getElem?_replicate, List.getElem?_eq_none (show ls.length ≤ s by omega)]
      split <;> rfl
  have hpk : kraft pad = kraft ls := by
    rw [hpad]
    generalize n - ls.length = m
    induction m with
    | zero => simp
    | succ m ih => rw [List.replicate_succ', ← List.append_assoc, kraft_snoc, ih]; rfl
  have hb := lens_best (ks := often n ss) (ls := pad) (L := 15) hE (by rw [hpad, List.length_append, List.length_replicate, often_length]; omega) (fun s _ => by
      rw [hg]
      by_cases hl : s < ls.length
      · have := h2 _ (List.getElem_mem hl)
        rw [List.getD_eq_getElem?_getD, List.getElem?_eq_getElem hl]; exact this
      · rw [List.getD_eq_getElem?_getD, List.getElem?_eq_none (by omega)]; exact Nat.zero_le _)
    (fun s hs2 hk => by
      rw [often_length] at hs2
      rw [kOf_often hs2] at hk
      have hm : s ∈ ss := List.count_pos_iff.1 (by omega)
      have := hin s hm
      rw [hg]; omega) (by rw [hpk]; exact hkr)
  rw [show ((15 : Nat) : Int) = 15 from rfl, cost_bits _ hs, cost_bits _ hs] at hb
  have e : bitsOf pad ss = bitsOf ls ss := by
    unfold bitsOf
    congr 1
    exact List.map_congr_left fun s _ => hg s
  rw [e] at hb
  exact hb
theorem best_in {n : Nat} (hn : n ≤ 256) {ss : List Nat} (hs : ∀ x ∈ ss, x < n) : ∀ x ∈ ss, (lensO (often n ss) 15).getD x 0 ≠ 0 := by
  intro x hx
  have hE := often_E hn ss
  obtain ⟨hn2, L, hL, h1, h2, h3, e⟩ := ok_parts hE
  have hx2 := hs x hx
  rw [e, range_getD (by rw [often_length]; exact hx2)]
  have hm : x ∈ order (kOf (often n ss)) (often n ss).length := order_mem.2 ⟨by rw [often_length]; exact hx2, by
    rw [kOf_often hx2]
    have := List.count_pos_iff.2 hx
    omega⟩
  have := (lenS_in h1 h3 hm).1
  omega
theorem bitsOf_le {ls : List Nat} (h : ∀ x ∈ ls, x ≤ 15) (ss : List Nat) : bitsOf ls ss ≤ ss.length * 15 := by
  unfold bitsOf
  induction ss with
  | nil => simp
  | cons x t ih =>
    have : ls.getD x 0 ≤ 15 := by
      by_cases hl : x < ls.length
      · rw [List.getD_eq_getElem?_getD, List.getElem?_eq_getElem hl]; exact h _ (List.getElem_mem hl)
      · rw [List.getD_eq_getElem?_getD, List.getElem?_eq_none (by omega)]; exact Nat.zero_le _
    rw [List.map_cons, List.sum_cons, List.length_cons, Nat.add_mul]
    omega
end Go.Proofs.Ytdfpcnldfibceaa.Lens

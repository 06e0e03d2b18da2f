/-
  Plain: what the lengths are good for (chapter 7).
  Plain: what lens.Lens finds at limit 15 makes a coder.
-/
import Derived.Test.YtidclmmnfienlaaGreatDoorLensPB
import Derived.Test.YtidclmmnfienlaaGreatDoorLensUsed
import Derived.Test.YtidclmmnfienlaaGreatDoorCanonCR

namespace Go.Proofs.YtidclmmnfienlaaGreatDoor.Lens
open Go.Proofs.YtidclmmnfienlaaGreatDoor.Srt Go.Proofs.YtidclmmnfienlaaGreatDoor.Canon

/-- How long a symbol's word is. -/
def lenS (ks : List Nat) (L s : Nat) : Nat :=
  if (order (kOf ks) ks.length).length < 2 then if s ∈ order (kOf ks) ks.length then 1 else 0
  else lenR (kOf ks) (order (kOf ks) ks.length) (L - 1) (2 * (order (kOf ks) ks.length).length - 2) s
theorem lensV_eq (ks : List Nat) (L : Nat) : lensV ks L = (List.range ks.length).map (lenS ks L) := by
  unfold lensV
  show (if (order (kOf ks) ks.length).length < 2 then _ else _) = _
  split
  · rename_i h
    refine List.map_congr_left fun s _ => ?_
    unfold lenS
    rw [if_pos h]
  · rename_i h
    refine List.map_congr_left fun s _ => ?_
    unfold lenS
    rw [if_neg h]
theorem ok_parts {ks : List Nat} {limit : Int} (h : lensE ks limit = 0) :
    ks.length ≤ 300 ∧ ∃ L : Nat, limit = L ∧ 1 ≤ L ∧ L ≤ 15 ∧ (order (kOf ks) ks.length).length ≤ 2 ^ L ∧ lensO ks limit = (List.range ks.length).map (lenS ks L) := by
  have h0 := h
  unfold lensE at h
  split at h
  · cases h
  · rename_i h1
    split at h
    · cases h
    · rename_i h2
      obtain ⟨L, rfl⟩ : ∃ L : Nat, limit = L := ⟨limit.toNat, by omega⟩
      refine ⟨by omega, L, rfl, by omega, by omega, Nat.le_of_not_lt h2, ?_⟩
      unfold lensO
      rw [if_pos h0, Int.toNat_natCast, lensV_eq]
theorem lensO_length {ks : List Nat} {limit : Int} (h : lensE ks limit = 0) : (lensO ks limit).length = ks.length := by
  obtain ⟨_, L, _, _, _, _, e⟩ := ok_parts h
  rw [e]; simp
theorem lenS_out {ks : List Nat} {L s : Nat} (h : s ∉ order (kOf ks) ks.length) : lenS ks L s = 0 := by
  unfold lenS
  split
  · rfl
  · exact lenR_out _ _ _ h
theorem lenS_rare {ks : List Nat} {L a b : Nat} (ha : a ∈ order (kOf ks) ks.length) (h : Lt (kOf ks) a b) : lenS ks L b ≤ lenS ks L a := by
  unfold lenS
  split
  · split <;> omega
  · exact lenR_rare (order_sorted _ _) ha h _ _
theorem sm_zero {f : Nat → Nat} {l : List Nat} (h : ∀ s ∈ l, f s = 0) : sm f l = 0 := by
  have : sm f l = sm (fun _ => 0) l := sm_congr h
  rw [this, sm_const]; simp
/-- A sum over all numbers below n of what is none of unused ones. -/
theorem sum_used {k f : Nat → Nat} (h : ∀ s, k s = 0 → f s = 0) : ∀ n, ((List.range n).map f).sum = sm f (used k n)
  | 0 => rfl
  | n + 1 => by
    rw [List.range_succ, List.map_append, List.sum_append, sum_used h n, used]
    split
    · rename_i h0
      simp [h n h0]
    · rw [sm_append]; simp [sm]
theorem sum_order {k f : Nat → Nat} (h : ∀ s, k s = 0 → f s = 0) (n : Nat) : ((List.range n).map f).sum = sm f (order k n) := by
  rw [sum_used h n, sm_perm (order_perm k n)]
theorem lenS_unused {ks : List Nat} {L s : Nat} (h : kOf ks s = 0) : lenS ks L s = 0 := lenS_out fun hs => (order_mem.1 hs).2 h
theorem lenS_in {ks : List Nat} {L s : Nat} (h1 : 1 ≤ L) (h : (order (kOf ks) ks.length).length ≤ 2 ^ L) (hs : s ∈ order (kOf ks) ks.length) : 1 ≤ lenS ks L s ∧ lenS ks L s ≤ L := by
  unfold lenS
  split
  · omega
  · have h2 := (full (order_sorted (kOf ks) ks.length) (by omega) h1 h).2 s hs
    have h3 := lenR_le (k := kOf ks) (S := order (kOf ks) ks.length) (L - 1) (2 * (order (kOf ks) ks.length).length - 2) s
    omega
theorem lenS_full {ks : List Nat} {L : Nat} (h1 : 1 ≤ L) (h : (order (kOf ks) ks.length).length ≤ 2 ^ L) (h2 : 2 ≤ (order (kOf ks) ks.length).length) : sm (fun s => 2 ^ (L - lenS ks L s)) (order (kOf ks) ks.length) = 2 ^ L := by
  have h3 := (full (order_sorted (kOf ks) ks.length) h2 h1 h).1
  rw [← h3]
  refine sm_congr fun s _ => ?_
  unfold lenS
  rw [if_neg (by omega)]
/-- What the lengths weigh. -/
theorem kraft_lens {ks : List Nat} {limit : Int} (h : lensE ks limit = 0) : kraft (lensO ks limit) = if (order (kOf ks) ks.length).length = 0 then 0 else if (order (kOf ks) ks.length).length = 1 then 16384 else 32768 := by
  obtain ⟨hn, L, rfl, h1, h2, h3, e⟩ := ok_parts h
  unfold kraft
  rw [e, List.map_map, sum_order (k := kOf ks) (fun s hs => by simp [lenS_unused hs])]
  have e1 : sm ((fun x => if x = 0 then 0 else 2 ^ (15 - x)) ∘ lenS ks L) (order (kOf ks) ks.length) = sm (fun s => 2 ^ (15 - lenS ks L s)) (order (kOf ks) ks.length) := sm_congr fun s hs => by
    have := (lenS_in h1 h3 hs).1
    show (if lenS ks L s = 0 then 0 else _) = _
    rw [if_neg (by omega)]
  rw [e1]
  by_cases q0 : (order (kOf ks) ks.length).length = 0
  · rw [if_pos q0, List.eq_nil_of_length_eq_zero q0]; rfl
  · rw [if_neg q0]
    by_cases q1 : (order (kOf ks) ks.length).length = 1
    · rw [if_pos q1]
      have hx : ∀ s ∈ order (kOf ks) ks.length, 2 ^ (15 - lenS ks L s) = 16384 := fun s hs => by
        have : lenS ks L s = 1 := by unfold lenS; rw [if_pos (by omega), if_pos hs]
        rw [this]
      rw [sm_congr (g := fun _ => 16384) hx, sm_const, q1]
    · rw [if_neg q1]
      have hx : ∀ s ∈ order (kOf ks) ks.length, 2 ^ (15 - lenS ks L s) = 2 ^ (15 - L) * 2 ^ (L - lenS ks L s) := fun s hs => by
        have := (lenS_in h1 h3 hs).2
        rw [← Nat.pow_add]; congr 1; omega
      rw [sm_congr hx, sm_mul, lenS_full h1 h3 (by omega), ← Nat.pow_add, show 15 - L + L = 15 by omega]
theorem used_count {ks : List Nat} {limit : Int} (h : lensE ks limit = 0) : (lensO ks limit).countP (fun x => decide (x ≠ 0)) = (order (kOf ks) ks.length).length := by
  obtain ⟨hn, L, rfl, h1, h2, h3, e⟩ := ok_parts h
  have key : ∀ n, ((List.range n).map (lenS ks L)).countP (fun x => decide (x ≠ 0)) = ((List.range n).map fun s => if lenS ks L s = 0 then 0 else 1).sum := by
    intro n
    induction n with
    | zero => rfl
    | succ n ih =>
      rw [List.range_succ, List.map_append, List.map_append, List.countP_append, List.sum_append, ih]
      by_cases hz : lenS ks L n = 0 <;> simp [hz]
  rw [e, key, sum_order (k := kOf ks) (fun s hs => by rw [if_pos (lenS_unused hs)])]
  have hx : ∀ s ∈ order (kOf ks) ks.length, (if lenS ks L s = 0 then 0 else 1) = 1 := fun s hs => by
    have := (lenS_in h1 h3 hs).1
    rw [if_neg (by omega)]
  rw [sm_congr (g := fun _ => 1) hx, sm_const, Nat.mul_one]
/-- What lengths cost. -/
def costV (ks ls : List Nat) : Nat := ((List.range ks.length).map fun s => ks.getD s 0 * ls.getD s 0).sum
theorem cost_order (ks ls : List Nat) : costV ks ls = sm (fun s => kOf ks s * ls.getD s 0) (order (kOf ks) ks.length) :=
  sum_order (k := kOf ks) (fun s hs => by show kOf ks s * _ = 0; rw [hs, Nat.zero_mul]) _
theorem range_getD {n s : Nat} {f : Nat → Nat} (h : s < n) : ((List.range n).map f).getD s 0 = f s := by
  rw [List.getD_eq_getElem?_getD, List.getElem?_map, List.getElem?_range h]; rfl
/-- No other lengths cost less. -/
theorem lens_best {ks ls : List Nat} {L : Nat} (h : lensE ks L = 0) (hlen : ls.length = ks.length) (hlim : ∀ s, s < ks.length → ls.getD s 0 ≤ L) (hin : ∀ s, s < ks.length → kOf ks s ≠ 0 → 1 ≤ ls.getD s 0) (hk : kraft ls ≤ 32768) : costV ks (lensO ks L) ≤ costV ks ls := by
  obtain ⟨hn, L', hL, h1, h2, h3, e⟩ := ok_parts h
  obtain rfl : L = L' := by omega
  rw [cost_order, cost_order, e]
  have hs : ∀ s ∈ order (kOf ks) ks.length, kOf ks s * ((List.range ks.length).map (lenS ks L)).getD s 0 = kOf ks s * lenS ks L s := fun s hs => by
    rw [range_getD (order_mem.1 hs).1]
  rw [sm_congr hs]
  by_cases q : (order (kOf ks) ks.length).length < 2
  · refine sm_le fun s hs => Nat.mul_le_mul_left _ ?_
    have := hin s (order_mem.1 hs).1 (order_mem.1 hs).2
    unfold lenS
    rw [if_pos q, if_pos hs]
    exact this
  · have hw : sm (fun s => 2 ^ (L - ls.getD s 0)) (order (kOf ks) ks.length) ≤ 2 ^ L := by
      have k1 : kraft ls = ((List.range ks.length).map fun s => if ls.getD s 0 = 0 then 0 else 2 ^ (15 - ls.getD s 0)).sum := by
        unfold kraft
        congr 1
        refine List.ext_getElem (by simp [hlen]) fun i i1 i2 => ?_
        simp at i1
        simp [List.getD_eq_getElem?_getD, List.getElem?_eq_getElem i1]
      have k2 : sm (fun s => if ls.getD s 0 = 0 then 0 else 2 ^ (15 - ls.getD s 0)) (used (kOf ks) ks.length) ≤ kraft ls := by
        rw [k1]
        generalize hf : (fun s => if ls.getD s 0 = 0 then 0 else 2 ^ (15 - ls.getD s 0)) = f
        clear hf k1
        generalize ks.length = n
        induction n with
        | zero => exact Nat.le_refl _
        | succ n ih =>
          rw [used, List.range_succ, List.map_append, List.sum_append]
          split
          · omega
          · rw [sm_append]; simp [sm]; omega
      rw [← sm_perm (order_perm (kOf ks) ks.length)] at k2
      have k3 : sm (fun s => if ls.getD s 0 = 0 then 0 else 2 ^ (15 - ls.getD s 0)) (order (kOf ks) ks.length) = 2 ^ (15 - L) * sm (fun s => 2 ^ (L - ls.getD s 0)) (order (kOf ks) ks.length) := by
        rw [← sm_mul]
        refine sm_congr fun s hs => ?_
        have a1 := hin s (order_mem.1 hs).1 (order_mem.1 hs).2
        have a2 := hlim s (order_mem.1 hs).1
        rw [if_neg (by omega), ← Nat.pow_add]
        congr 1; omega
      rw [k3] at k2
      have k4 : 2 ^ (15 - L) * 2 ^ L = 32768 := by rw [← Nat.pow_add, show 15 - L + L = 15 by omega]
      have k5 : 2 ^ (15 - L) * sm (fun s => 2 ^ (L - ls.getD s 0)) (order (kOf ks) ks.length) ≤ 2 ^ (15 - L) * 2 ^ L := by omega
      exact Nat.le_of_mul_le_mul_left k5 (Nat.two_pow_pos _)
    have hb := best (k := kOf ks) (order_sorted (kOf ks) ks.length) (by omega) h1 (fun s => ls.getD s 0) (fun s hs => hlim s (order_mem.1 hs).1) hw
    refine Nat.le_trans (Nat.le_of_eq (sm_congr fun s _ => ?_)) hb
    unfold lenS
    rw [if_neg q]
/-- A greater limit. -/
theorem lens_more {ks : List Nat} {L : Nat} (hL : L + 1 ≤ 15) (h : lensE ks L = 0) : lensE ks (L + 1 : Nat) = 0 ∧ costV ks (lensO ks (L + 1 : Nat)) ≤ costV ks (lensO ks L) := by
  obtain ⟨hn, L', hLL, h1, h2, h3, e⟩ := ok_parts h
  obtain rfl : L = L' := by omega
  have hE : lensE ks (L + 1 : Nat) = 0 := by
    unfold lensE
    rw [if_neg (by omega), if_neg]
    show ¬ 2 ^ (L + 1) < (order (kOf ks) ks.length).length
    rw [Nat.pow_succ]; omega
  refine ⟨hE, lens_best hE (lensO_length h) (fun s hs => ?_) (fun s hs hk => ?_) ?_⟩
  · rw [e, range_getD hs]
    by_cases hm : s ∈ order (kOf ks) ks.length
    · have := (lenS_in h1 h3 hm).2; omega
    · rw [lenS_out hm]; omega
  · rw [e, range_getD hs]
    exact (lenS_in h1 h3 (order_mem.2 ⟨hs, hk⟩)).1
  · rw [kraft_lens h]
    split
    · omega
    · split <;> omega
theorem lensE_two (ks : List Nat) (L : Nat) (h0 : ks.length ≤ 300) (h1 : 1 ≤ L) (h2 : L ≤ 15) : lensE ks L = 0 ∨ lensE ks L = 6 := by
  unfold lensE
  rw [if_neg (by omega)]
  split
  · exact .inr rfl
  · exact .inl rfl
end Go.Proofs.YtidclmmnfienlaaGreatDoor.Lens

namespace Go.Proofs.YtidclmmnfienlaaGreatDoor.Lens
open Go.Proofs.YtidclmmnfienlaaGreatDoor.Srt Go.Proofs.YtidclmmnfienlaaGreatDoor.Canon

theorem good_any {ks : List Nat} (hE : lensE ks 15 = 0) (hn : ks.length ≤ 300) : goodB (lensO ks 15) = true := by
  refine good_all (by rw [lensO_length hE]; exact hn) fun x hx => ?_
  obtain ⟨_, L, hL, h1, h2, h3, e⟩ := ok_parts hE
  rw [e] at hx
  obtain ⟨s, _, rfl⟩ := List.mem_map.1 hx
  by_cases hm : s ∈ order (kOf ks) ks.length
  · have := (lenS_in h1 h3 hm).2; omega
  · rw [lenS_out hm]; omega
/-- The lengths that are found make a coder. -/
theorem okB_lens {ks : List Nat} (hE : lensE ks 15 = 0) (hn : ks.length ≤ 300) : okB (lensO ks 15) = true := by
  have hg := good_any hE hn
  have hu := used_count hE
  have hk := kraft_lens hE
  have hc := checkE_ref hg
  have h0 : checkE (lensO ks 15) = 0 := by
    rw [hc, if_pos]
    by_cases q0 : (order (kOf ks) ks.length).length = 0
    · left; unfold Canon.used; rw [hu, q0]
    · by_cases q1 : (order (kOf ks) ks.length).length = 1
      · right; left
        refine ⟨by unfold Canon.used; rw [hu, q1], ?_⟩
        have : cnt (lensO ks 15) 1 = (lensO ks 15).countP (fun x => decide (x ≠ 0)) := by
          unfold cnt
          refine List.countP_congr fun x hx => ?_
          obtain ⟨_, L, hL, h1, h2, h3, e⟩ := ok_parts hE
          rw [e] at hx
          obtain ⟨s, _, rfl⟩ := List.mem_map.1 hx
          have hle : lenS ks L s ≤ 1 := by
            unfold lenS
            rw [if_pos (by omega)]
            split <;> omega
          simp
          omega
        rw [this, hu, q1]
      · right; right
        rw [hk, if_neg q0, if_neg q1]
  unfold checkE at h0
  split at h0
  · assumption
  · cases h0
end Go.Proofs.YtidclmmnfienlaaGreatDoor.Lens

/-
  Plain: what lens.Lens finds at limit 15 makes a coder.
-/
import Derived.Test.YtloakdiioaodaaaLensFacts
import Derived.Test.YtloakdiioaodaaaRefCheck
namespace Go.Proofs.Ytloakdiioaodaaa.Lens
open Go.Proofs.Ytloakdiioaodaaa.Srt Go.Proofs.Ytloakdiioaodaaa.Canon

theorem good_any {ks : List Nat} (hE : lensE ks 15 = 0) (hn : ks.length ≤ 300) : goodB (lensO ks 15) = true := by
  refine good_all (by rw [lensO_length hE]; exact hn) fun x hx => ?_
  obtain ⟨_, L, hL, h1, h2, h3, e⟩ := ok_parts hE
  rw [e] at hx
  obtain ⟨s, _, rfl⟩ := List.mem_map.1 hx
  by_cases hm : s ∈ order (kOf ks) ks.length
  · have := (lenS_in h1 h3 hm).2; omega
  · rw [lenS_out hm]; omega
/-- The lengths that are found make a coder. -/
theorem okB_lens {ks : List Nat} (hE : lensE ks 15 = 0) (hn : ks.length ≤ 300) : okB (lensO ks 15) = true := by
  have hg := good_any hE hn
  have hu := used_count hE
  have hk := kraft_lens hE
  have hc := checkE_ref hg
  have h0 : checkE (lensO ks 15) = 0 := by
    rw [hc, if_pos]
    by_cases q0 : (order (kOf ks) ks.length).length = 0
    · left; unfold Canon.used; rw [hu, q0]
    · by_cases q1 : (order (kOf ks) ks.length).length = 1
      · right; left
        refine ⟨by unfold Canon.used; rw [hu, q1], ?_⟩
        have : cnt (lensO ks 15) 1 = (lensO ks 15).countP (fun x => decide (x ≠ 0)) := by
          unfold cnt
          refine List.countP_congr fun x hx => ?_
          obtain ⟨_, L, hL, h1, h2, h3, e⟩ := ok_parts hE
          rw [e] at hx
          obtain ⟨s, _, rfl⟩ := List.mem_map.1 hx
          have hle : lenS ks L s ≤ 1 := by
            unfold lenS
            rw [if_pos (by omega)]
            split <;> omega
          simp
          omega
        rw [this, hu, q1]
      · right; right
        rw [hk, if_neg q0, if_neg q1]
  unfold checkE at h0
  split at h0
  · assumption
  · cases h0
end Go.Proofs.Ytloakdiioaodaaa.Lens

/-
  The walks of firkinref35.In, firkinref16.Begins, firkinref35.fits.
-/
import Derived.Test.YtloakdiioaodaaaSiftFits
namespace Go.Proofs.Ytloakdiioaodaaa.Sift
open Go.RowKit Go.Proofs.Ytloakdiioaodaaa.Mem Go.Proofs.Ytloakdiioaodaaa.Own

theorem contains_of_at {s n : List UInt8} {i : Nat} (e : (s.drop i).take n.length = n) : Lib.contains s n = true := by
  rw [contains_iff]
  refine ⟨s.take i, (s.drop i).drop n.length, ?_⟩
  conv => lhs; rw [← e]
  rw [List.append_assoc, e]
  conv => lhs; arg 2; lhs; rw [← e]
  rw [List.take_append_drop, List.take_append_drop]
theorem not_contains {s n : List UInt8} (h : ∀ i, i + n.length ≤ s.length → (s.drop i).take n.length ≠ n) : Lib.contains s n = false := by
  cases hc : Lib.contains s n
  · rfl
  · obtain ⟨a, b, e⟩ := contains_iff.1 hc
    subst e
    exact absurd (by rw [List.append_assoc, List.drop_left, List.take_left]) (h a.length (by simp))
theorem prefix_take (s p : List UInt8) : (decide (p.length ≤ s.length) && (s.take p.length == p)) = p.isPrefixOf s := by
  rw [Bool.eq_iff_iff, Bool.and_eq_true, decide_eq_true_eq, beq_iff_eq, List.isPrefixOf_iff_prefix, List.prefix_iff_eq_take]
  constructor
  · intro h; exact h.2.symm
  · intro h; exact ⟨by rw [h, List.length_take]; omega, h.symm⟩
theorem suffix_drop (s p : List UInt8) : (decide (p.length ≤ s.length) && (s.drop (s.length - p.length) == p)) = p.isSuffixOf s := by
  rw [Bool.eq_iff_iff, Bool.and_eq_true, decide_eq_true_eq, beq_iff_eq, List.isSuffixOf_iff_suffix, List.suffix_iff_eq_drop]
  constructor
  · intro h; exact h.2.symm
  · intro h; exact ⟨by rw [h, List.length_drop]; omega, h.symm⟩

set_option maxRecDepth 100000 in
theorem rin_any (w : World) (s n : ByteArray) (hs : s.size ≤ 100000) (hn : n.size ≤ 100000) :
    Calls Try.prog 9 #[.string s, .string n] w fun e w' => e = .returned (.bool (Lib.contains s.data.toList n.data.toList)) ∧ w' = w := by
  have hls := Lib.size_eq s
  have hln := Lib.size_eq n
  have HLS := Lib.hid hls
  have HLN := Lib.hid hln
  clear hls hln
  go_enter Try.func9, Try.ntmps9
  go_wp2_with fail
  go_loopw [5] (fun i wx => ∃ k : Nat, k ≤ s.size + 1 ∧ i = .int .i64 k ∧ Hid (∀ j, j < k → (s.data.toList.drop j).take n.data.toList.length ≠ n.data.toList) ∧ wx = w) (fun i _ => s.size + 1 - (intOf i).toNat)
  case atStart => exact ⟨0, by omega, rfl, fun j hj => absurd hj (by omega), rfl⟩
  case round =>
    obtain ⟨k, hk, rfl, HA, rfl⟩ := hrel
    have s1 : IntKind.i64.wrap ((k : Int) + (n.size : Int)) = ((k + n.size : Nat) : Int) := by rw [IntWalk.i64_in _ (by omega)]; omega
    by_cases hlt : k + n.size ≤ s.size
    · have g1 : decide ((k : Int) + (n.size : Int) ≤ (s.size : Int)) = true := by simp; omega
      have g2 : decide (k + n.size ≤ s.size) = true := by simp; omega
      have ks : ∀ wx, (Instr.slice 9 (.string s) (some (.int .i64 (k : Int))) (some (.int .i64 ((k : Int) + (n.size : Int)))) none).run Try.prog wx = .ok (.string (s.extract k (k + n.size))) wx := by
        intro wx
        rw [run_slice_string wx 9 s .i64 .i64 (k : Int) ((k : Int) + (n.size : Int)) Try.underlying9 (by omega) (by omega) (by omega)]
        rfl
      have hx : (s.extract k (k + n.size)).toList = (s.data.toList.drop k).take n.data.toList.length := by
        rw [ByteArray.toList_eq, extract_list, show k + n.size - k = n.data.toList.length by rw [← HLN.out]; omega]
      obtain ⟨b, hb⟩ : ∃ b, b = ((s.extract k (k + n.size)).toList == n.toList) := ⟨_, rfl⟩
      have hb2 := hb
      rw [hx, ByteArray.toList_eq] at hb2
      have e1 := hb.symm
      have HB := Lib.hid hb2
      clear hx hb hb2
      cases b
      · go_wp2_with fail
        go_roundw
        case measure => go_light; simp [intOf]; omega
        case rel =>
          go_light
          refine ⟨k + 1, by omega, by go_num, ?_, by first | rfl | trivial⟩
          intro j hj
          by_cases hjk : j < k
          · exact HA.out j hjk
          · obtain rfl : j = k := by omega
            intro e
            have := HB.out
            rw [e] at this
            simp at this
      · go_wp2_with fail
        go_ret
        refine ⟨ret_bool ?_, rfl⟩
        have := HB.out
        exact (contains_of_at (i := k) (by simpa using this.symm)).symm
    · have g1 : decide ((k : Int) + (n.size : Int) ≤ (s.size : Int)) = false := by simp; omega
      have g2 : decide (k + n.size ≤ s.size) = false := by simp; omega
      go_wp2_with fail
      go_ret
      refine ⟨ret_bool (not_contains fun i hi => HA.out i ?_).symm, rfl⟩
      rw [← HLN.out, ← HLS.out] at hi
      omega

set_option maxRecDepth 100000 in
theorem rbegins_any (w : World) (x p : List UInt8) (_hx : x.length ≤ 100000) (_hp : p.length ≤ 100000) :
    Calls Try.prog 58 #[.string (bs x), .string (bs p)] w fun e w' => e = .returned (.bool (p.isPrefixOf x)) ∧ w' = w := by
  rw [← prefix_take]
  have hz1 := bs_size x
  have hz2 := bs_size p
  by_cases h : p.length ≤ x.length
  · have g1 : decide (((bs p).size : Int) ≤ ((bs x).size : Int)) = true := by simp; omega
    have g2 : decide ((bs p).size ≤ (bs x).size) = true := by simp; omega
    have ks : ∀ wx, (Instr.slice 9 (.string (bs x)) none (some (.int .i64 ((bs p).size : Int))) none).run Try.prog wx = .ok (.string (bs (x.take p.length))) wx := by
      intro wx
      rw [run_slice_string_h wx (t := 9) (s := bs x) (ht := Try.underlying9) .i64 ((bs p).size : Int) (by omega) (by omega), bs_extract, hz2]
      simp
    have e1 : ((bs (x.take p.length)).toList == (bs p).toList) = (x.take p.length == p) := by rw [ByteArray.toList_eq, ByteArray.toList_eq, bs_list, bs_list]
    rw [decide_eq_true h, Bool.true_and]
    generalize (x.take p.length == p) = b at *
    clear hz1 hz2
    go_enter Try.func58, Try.ntmps58
    go_wp2_with fail
    go_ret
    exact ⟨rfl, rfl⟩
  · have g1 : decide (((bs p).size : Int) ≤ ((bs x).size : Int)) = false := by simp; omega
    have g2 : decide ((bs p).size ≤ (bs x).size) = false := by simp; omega
    rw [decide_eq_false h, Bool.false_and]
    clear hz1 hz2
    go_enter Try.func58, Try.ntmps58
    go_wp2_with fail
    go_ret
    exact ⟨rfl, rfl⟩

set_option maxRecDepth 100000 in
/-- The end of firkinref35.fits where the word must end with the run. -/
theorem rfits_any (w : World) (x s : List UInt8) (a b : Bool) (hx : x.length ≤ 100000) (hs : s.length ≤ 100000) :
    Calls Try.prog 26 #[.string (bs x), .string (bs s), .bool a, .bool b] w fun e w' => e = .returned (.bool (fitsB ⟨s, a, b⟩ x)) ∧ w' = w := by
  have hz1 := bs_size x
  have hz2 := bs_size s
  have ks : 24 < s.length → ∀ wx, (Instr.slice 9 (.string (bs s)) none (some (.int .i64 24)) none).run Try.prog wx = .ok (.string (bs (s.take 24))) wx := by
    intro h24 wx
    rw [run_slice_string_h wx (t := 9) (s := bs s) (ht := Try.underlying9) .i64 24 (by omega) (by omega), bs_extract]
    simp
  have hshort : ¬ 24 < s.length → s.take 24 = s := fun h => List.take_of_length_le (by omega)
  have D1 := rbegins_any w x (s.take 24) hx (by simp; omega)
  have D2 := rin_any w (bs x) (bs s) (by omega) (by omega)
  rw [bs_list, bs_list] at D2
  have e1 : ((bs x).toList == (bs (s.take 24)).toList) = (x == s.take 24) := by rw [ByteArray.toList_eq, ByteArray.toList_eq, bs_list, bs_list]
  have e2 : ((bs x).toList == (bs s).toList) = (x == s) := by rw [ByteArray.toList_eq, ByteArray.toList_eq, bs_list, bs_list]
  have D1 := Lib.hid D1
  have D2 := Lib.hid D2
  cases a
  · cases b
    · rw [show fitsB ⟨s, false, false⟩ x = (x == s.take 24) from rfl]
      by_cases h24 : 24 < s.length
      · have ks := ks h24
        have g1 : decide ((24 : Int) < ((bs s).size : Int)) = true := by simp; omega
        have g2 : decide (24 < (bs s).size) = true := by simp; omega
        clear hshort hz1 hz2 e2
        go_enter Try.func26, Try.ntmps26
        go_wp2_with fail
        go_ret
        exact ⟨rfl, rfl⟩
      · rw [hshort h24] at e1 ⊢
        have g1 : decide ((24 : Int) < ((bs s).size : Int)) = false := by simp; omega
        have g2 : decide (24 < (bs s).size) = false := by simp; omega
        clear hshort hz1 hz2 e2 ks
        go_enter Try.func26, Try.ntmps26
        go_wp2_with fail
        go_ret
        exact ⟨rfl, rfl⟩
    · rw [show fitsB ⟨s, false, true⟩ x = (s.take 24).isPrefixOf x from rfl]
      by_cases h24 : 24 < s.length
      · have ks := ks h24
        have g1 : decide ((24 : Int) < ((bs s).size : Int)) = true := by simp; omega
        have g2 : decide (24 < (bs s).size) = true := by simp; omega
        clear hshort hz1 hz2 e1 e2
        go_enter Try.func26, Try.ntmps26
        go_wp2_with fail
        refine D1.out.mono ?_
        rintro e w1 ⟨rfl, rfl⟩
        go_wp2_with fail
        go_ret
        exact ⟨rfl, rfl⟩
      · rw [hshort h24] at D1 ⊢
        have g1 : decide ((24 : Int) < ((bs s).size : Int)) = false := by simp; omega
        have g2 : decide (24 < (bs s).size) = false := by simp; omega
        clear hshort hz1 hz2 e1 e2 ks
        go_enter Try.func26, Try.ntmps26
        go_wp2_with fail
        refine D1.out.mono ?_
        rintro e w1 ⟨rfl, rfl⟩
        go_wp2_with fail
        go_ret
        exact ⟨rfl, rfl⟩
  · by_cases h24 : 24 < s.length
    · have ks := ks h24
      have g1 : decide ((24 : Int) < ((bs s).size : Int)) = true := by simp; omega
      have g2 : decide (24 < (bs s).size) = true := by simp; omega
      cases hl24 : (x.length == 24)
      · have l1 : (((bs x).size : Int) == 24) = false := by rw [← hl24, hz1, Bool.eq_iff_iff]; simp; omega
        cases b
        · rw [show fitsB ⟨s, true, false⟩ x = (s.isSuffixOf x || x.length == 24) from rfl, hl24, Bool.or_false, ← suffix_drop]
          by_cases hle : s.length ≤ x.length
          · have l2 : decide (((bs s).size : Int) ≤ ((bs x).size : Int)) = true := by simp; omega
            have l3 : decide ((bs s).size ≤ (bs x).size) = true := by simp; omega
            obtain ⟨d, hd⟩ : ∃ d, d = x.length - s.length := ⟨_, rfl⟩
            have s1 : IntKind.i64.wrap (((bs x).size : Int) - ((bs s).size : Int)) = (d : Int) := by rw [IntWalk.i64_in _ (by omega)]; omega
            have kl : ∀ wx, (Instr.slice 9 (.string (bs x)) (some (.int .i64 (d : Int))) none none).run Try.prog wx = .ok (.string (bs (x.drop d))) wx := by
              intro wx
              rw [run_slice_string_l wx (t := 9) (s := bs x) (ht := Try.underlying9) .i64 (d : Int) (by omega) (by omega), bs_extract, Int.toNat_natCast, hz1, List.take_of_length_le (by rw [List.length_drop]; exact Nat.le_refl _)]
            have e3 : ((bs (x.drop d)).toList == (bs s).toList) = (x.drop d == s) := by rw [ByteArray.toList_eq, ByteArray.toList_eq, bs_list, bs_list]
            rw [decide_eq_true hle, Bool.true_and, ← hd]
            generalize (x.drop d == s) = r at *
            clear hshort hz1 hz2 e1 e2 hd hl24
            go_enter Try.func26, Try.ntmps26
            go_wp2_with fail
            go_ret
            exact ⟨rfl, rfl⟩
          · have l2 : decide (((bs s).size : Int) ≤ ((bs x).size : Int)) = false := by simp; omega
            have l3 : decide ((bs s).size ≤ (bs x).size) = false := by simp; omega
            rw [decide_eq_false hle, Bool.false_and]
            clear hshort hz1 hz2 e1 e2 hl24
            go_enter Try.func26, Try.ntmps26
            go_wp2_with fail
            go_ret
            exact ⟨rfl, rfl⟩
        · rw [show fitsB ⟨s, true, true⟩ x = (Lib.contains x s || x.length == 24) from rfl, hl24, Bool.or_false]
          generalize Lib.contains x s = r at *
          clear hshort hz1 hz2 e1 e2 hl24
          go_enter Try.func26, Try.ntmps26
          go_wp2_with fail
          refine D2.out.mono ?_
          rintro e w1 ⟨rfl, rfl⟩
          go_wp2_with fail
          go_ret
          exact ⟨rfl, rfl⟩
      · have l1 : (((bs x).size : Int) == 24) = true := by rw [← hl24, hz1, Bool.eq_iff_iff]; simp; omega
        have hf : fitsB ⟨s, true, b⟩ x = true := by
          cases b
          · rw [show fitsB ⟨s, true, false⟩ x = (s.isSuffixOf x || x.length == 24) from rfl, hl24, Bool.or_true]
          · rw [show fitsB ⟨s, true, true⟩ x = (Lib.contains x s || x.length == 24) from rfl, hl24, Bool.or_true]
        rw [hf]
        clear hshort hz1 hz2 e1 e2 hl24 hf
        go_enter Try.func26, Try.ntmps26
        go_wp2_with fail
        go_ret
        exact ⟨rfl, rfl⟩
    · have g1 : decide ((24 : Int) < ((bs s).size : Int)) = false := by simp; omega
      have g2 : decide (24 < (bs s).size) = false := by simp; omega
      clear ks
      cases hl24 : (x.length == 24)
      · have l1 : (((bs x).size : Int) == 24) = false := by rw [← hl24, hz1, Bool.eq_iff_iff]; simp; omega
        cases b
        · rw [show fitsB ⟨s, true, false⟩ x = (s.isSuffixOf x || x.length == 24) from rfl, hl24, Bool.or_false, ← suffix_drop]
          by_cases hle : s.length ≤ x.length
          · have l2 : decide (((bs s).size : Int) ≤ ((bs x).size : Int)) = true := by simp; omega
            have l3 : decide ((bs s).size ≤ (bs x).size) = true := by simp; omega
            obtain ⟨d, hd⟩ : ∃ d, d = x.length - s.length := ⟨_, rfl⟩
            have s1 : IntKind.i64.wrap (((bs x).size : Int) - ((bs s).size : Int)) = (d : Int) := by rw [IntWalk.i64_in _ (by omega)]; omega
            have kl : ∀ wx, (Instr.slice 9 (.string (bs x)) (some (.int .i64 (d : Int))) none none).run Try.prog wx = .ok (.string (bs (x.drop d))) wx := by
              intro wx
              rw [run_slice_string_l wx (t := 9) (s := bs x) (ht := Try.underlying9) .i64 (d : Int) (by omega) (by omega), bs_extract, Int.toNat_natCast, hz1, List.take_of_length_le (by rw [List.length_drop]; exact Nat.le_refl _)]
            have e3 : ((bs (x.drop d)).toList == (bs s).toList) = (x.drop d == s) := by rw [ByteArray.toList_eq, ByteArray.toList_eq, bs_list, bs_list]
            rw [decide_eq_true hle, Bool.true_and, ← hd]
            generalize (x.drop d == s) = r at *
            clear hshort hz1 hz2 e1 e2 hd hl24
            go_enter Try.func26, Try.ntmps26
            go_wp2_with fail
            go_ret
            exact ⟨rfl, rfl⟩
          · have l2 : decide (((bs s).size : Int) ≤ ((bs x).size : Int)) = false := by simp; omega
            have l3 : decide ((bs s).size ≤ (bs x).size) = false := by simp; omega
            rw [decide_eq_false hle, Bool.false_and]
            clear hshort hz1 hz2 e1 e2 hl24
            go_enter Try.func26, Try.ntmps26
            go_wp2_with fail
            go_ret
            exact ⟨rfl, rfl⟩
        · rw [show fitsB ⟨s, true, true⟩ x = (Lib.contains x s || x.length == 24) from rfl, hl24, Bool.or_false]
          generalize Lib.contains x s = r at *
          clear hshort hz1 hz2 e1 e2 hl24
          go_enter Try.func26, Try.ntmps26
          go_wp2_with fail
          refine D2.out.mono ?_
          rintro e w1 ⟨rfl, rfl⟩
          go_wp2_with fail
          go_ret
          exact ⟨rfl, rfl⟩
      · have l1 : (((bs x).size : Int) == 24) = true := by rw [← hl24, hz1, Bool.eq_iff_iff]; simp; omega
        have hf : fitsB ⟨s, true, b⟩ x = true := by
          cases b
          · rw [show fitsB ⟨s, true, false⟩ x = (s.isSuffixOf x || x.length == 24) from rfl, hl24, Bool.or_true]
          · rw [show fitsB ⟨s, true, true⟩ x = (Lib.contains x s || x.length == 24) from rfl, hl24, Bool.or_true]
        rw [hf]
        clear hshort hz1 hz2 e1 e2 hl24 hf
        go_enter Try.func26, Try.ntmps26
        go_wp2_with fail
        go_ret
        exact ⟨rfl, rfl⟩
end Go.Proofs.Ytloakdiioaodaaa.Sift

/-
  The walk of package lens' used: the used numbers, those that are less often ahead.
-/
import Derived.Test.YtidclmmnfienlaaGreatDoorSortStable
import Derived.Test.YtidclmmnfienlaaGreatDoorLensPB
import Derived.Test.YtidclmmnfienlaaGreatDoorCloneNum
namespace Go.Proofs.YtidclmmnfienlaaGreatDoor.Lens
open Go.RowKit Go.Proofs.YtidclmmnfienlaaGreatDoor.Mem Go.Proofs.YtidclmmnfienlaaGreatDoor.Own Go.Proofs.YtidclmmnfienlaaGreatDoor.Srt Go.Proofs.YtidclmmnfienlaaGreatDoor.Canon

theorem nan_any (x : Nat) (w : World) : Calls Tryz.prog 186 #[.int .u32 x] w fun e w' => e = .returned (.bool false) ∧ w = w' := by
  go_enter Tryz.func186, Tryz.ntmps186
  go_wp2_with fail
  go_ret
  exact ⟨rfl, rfl⟩
theorem compare_any (a b : Nat) (w : World) : Calls Tryz.prog 171 #[.int .u32 a, .int .u32 b] w fun e w' => e = .returned (.int .i64 (cmp3 a b)) ∧ w = w' := by
  rcases Nat.lt_trichotomy a b with h | h | h
  · have e : cmp3 a b = -1 := by unfold cmp3; rw [if_pos h]
    rw [e]
    clear e
    go_enter Tryz.func171, Tryz.ntmps171
    go_wp2_with (go_at_call 186; refine (nan_any _ _).mono ?_; rintro e w' ⟨rfl, rfl⟩)
    go_ret
    exact ⟨rfl, rfl⟩
  · have e : cmp3 a b = 0 := by unfold cmp3; rw [if_neg (by omega), if_neg (by omega)]
    rw [e]
    subst h
    clear e
    go_enter Tryz.func171, Tryz.ntmps171
    go_wp2_with (go_at_call 186; refine (nan_any _ _).mono ?_; rintro e w' ⟨rfl, rfl⟩)
    go_ret
    exact ⟨rfl, rfl⟩
  · have e : cmp3 a b = 1 := by unfold cmp3; rw [if_neg (by omega), if_pos h]
    rw [e]
    have h' : ¬ a < b := by omega
    clear e
    go_enter Tryz.func171, Tryz.ntmps171
    go_wp2_with (go_at_call 186; refine (nan_any _ _).mono ?_; rintro e w' ⟨rfl, rfl⟩)
    go_ret
    exact ⟨rfl, rfl⟩

/-- How often a number is. -/
abbrev kOf (ks : List Nat) : Nat → Nat := fun s => ks.getD s 0

set_option maxRecDepth 100000 in
theorem less_any (w : World) (Bo B n c x y : Nat) (A : Option Addr) (ks : List Nat) (hn : ks.length = n) (hx : x < n) (hy : y < n) (hb : w.cell? ⟨Bo, 0, none⟩ = some (.slice A n c)) (ha : Row w B A n 1 (numF .u32 ks)) :
    Calls Tryz.prog 170 #[.int .i64 x, .int .i64 y, .pointer (some ⟨Bo, 0, none⟩)] w fun e w' => e = .returned (.int .i64 (cmp3 (kOf ks x) (kOf ks y))) ∧ ∃ q, w' = w.drewN q := by
  obtain ⟨b, off, v1, rfl, hbb, hv1, c1⟩ := num_cell ha hn hx
  obtain ⟨b', off', v2, e2, hbb', hv2, c2⟩ := num_cell ha hn hy
  injection e2 with e2
  injection e2 with e3 e4
  subst e3 e4
  have k1 : kOf ks x = v1 := by simp [kOf, List.getD_eq_getElem?_getD, hv1]
  have k2 : kOf ks y = v2 := by simp [kOf, List.getD_eq_getElem?_getD, hv2]
  rw [k1, k2]
  have x1 : (0 : Int) ≤ (x : Int) := by omega
  have x2 : (x : Int) < (n : Int) := by omega
  have x3 : (0 : Int) ≤ (y : Int) := by omega
  have x4 : (y : Int) < (n : Int) := by omega
  clear k1 k2 hv1 hv2 hn ha
  go_enter Tryz.func170, Tryz.ntmps170
  go_wp2_with fail
  go_quiet ((go_at_call 171; exact Calls.quiet_of_same ((compare_any _ _ _).mono (fun _ _ h => ⟨h.1, h.2.symm⟩))))
  go_wp2_with fail
  go_ret
  exact ⟨rfl, _, rfl⟩
theorem info_int2 : (Tryz.prog.info? 3).map (fun i => (i.zero, i.size, i.bytes)) = some (some (.int .i64 0), 1, 8) := by kernel_rfl

def UsedPost (ks : List Nat) (w : World) (e : Ending) (w' : World) : Prop :=
  ∃ A c, e = .returned (.slice A (order (kOf ks) ks.length).length c) ∧ Row w' w'.heap.size A (order (kOf ks) ks.length).length 1 (numF .i64 (order (kOf ks) ks.length)) ∧ Below w.heap.size w w'

/-- What was found, as places' numbers. -/
theorem used_dat {w : World} {base g n c : Nat} {l : List Nat} (h : w.ownsRow base 3 1 (.slice (some ⟨g, 0, none⟩) n c) n (numL .i64 l)) (hl : l.length = n) : Dat w g n (fun i => l.getD i 0) := by
  rcases h.2 with ⟨hv, _⟩ | ⟨g', cap, cur, hv, _, hh, hnc, _, hcs, htake⟩
  · cases hv
  · injection hv with e1 e2 e3
    injection e1 with e1
    injection e1 with e1
    subst e1
    refine ⟨cur, hh, by omega, fun i hi => ?_⟩
    have h1 : (numL .i64 l)[i]? = some (.int .i64 (l.getD i 0 : Nat)) := by
      rw [numL, List.getElem?_map, List.getElem?_eq_getElem (by omega), List.getD_eq_getElem?_getD, List.getElem?_eq_getElem (by omega)]
      rfl
    rw [← htake, List.getElem?_take] at h1
    split at h1
    · simpa using h1
    · cases h1
theorem seg_list (l : List Nat) : seg (fun i => l.getD i 0) 0 l.length = l := by
  refine List.ext_getElem (by rw [seg_length]; rfl) fun i h1 h2 => ?_
  rw [seg_get, Nat.zero_add, List.getD_eq_getElem?_getD, List.getElem?_eq_getElem h2]
  rfl
theorem sor_seg {k f : Nat → Nat} {n : Nat} (h : Sor k f 0 n) : (seg f 0 n).Pairwise (Lt k) := by
  rw [List.pairwise_iff_getElem]
  intro i j hi hj hij
  rw [seg_length] at hj
  rw [seg_get, seg_get, Nat.zero_add, Nat.zero_add]
  exact h i j (Nat.zero_le _) hij (by omega)
theorem sorted_row {w : World} {g n : Nat} {k f : Nat → Nat} {m : Nat} (hd : Dat w g n f) (h : Ok k (fun i => (used k m).getD i 0) f 0 n) (hn : (used k m).length = n) : (order k m).length = n ∧ Row w w.heap.size (some ⟨g, 0, none⟩) n 1 (numF .i64 (order k m)) := by
  have e : seg f 0 n = order k m := order_unique (sor_seg h.1) (by
    have h2 := h.2
    rw [← hn, seg_list, hn] at h2
    exact h2)
  have hl : (order k m).length = n := by rw [← e, seg_length]; rfl
  refine ⟨hl, fun _ => ⟨g, 0, rfl, hd.lt, fun i j hi hj => ?_⟩⟩
  obtain rfl : j = 0 := by omega
  rw [Nat.mul_one, Nat.add_zero, Nat.zero_add, hd.cell hi]
  unfold numF
  rw [← e, List.getD_eq_getElem?_getD, List.getElem?_eq_getElem (by rw [seg_length]; omega), seg_get, Nat.zero_add]
  rfl
theorem used_getD_rising {k : Nat → Nat} {m : Nat} : ∀ i j, i < j → j < (used k m).length → (used k m).getD i 0 < (used k m).getD j 0 := by
  intro i j hij hj
  have h := List.pairwise_iff_getElem.1 (used_rising k m) i j (by omega) hj hij
  rw [List.getD_eq_getElem?_getD, List.getD_eq_getElem?_getD, List.getElem?_eq_getElem (by omega), List.getElem?_eq_getElem hj]
  exact h
theorem used_getD_lt {k : Nat → Nat} {m : Nat} : All m (used k m).length (fun i => (used k m).getD i 0) := fun i hi => by
  show (used k m).getD i 0 < m
  rw [List.getD_eq_getElem?_getD, List.getElem?_eq_getElem hi]
  exact (used_mem.1 (List.getElem_mem hi)).1

set_option maxHeartbeats 1000000 in
set_option maxRecDepth 100000 in
theorem used_any (w : World) (A : Option Addr) (n c : Nat) (ks : List Nat) (hn : ks.length = n) (hN : n ≤ 100000) (ha : Row w w.heap.size A n 1 (numF .u32 ks)) :
    Calls Tryz.prog 154 #[.slice A n c] w (UsedPost ks w) := by
  obtain ⟨j0, hj0, hy0, hy1, hy2⟩ := info_parts info_int2
  have HN := Lib.hid hn
  have HA := Lib.hid ha
  clear hn ha
  go_enter Tryz.func154, Tryz.ntmps154
  go_wp2_with fail
  have bl0 : Blk (w.alloc (.cells #[.slice A n c] 141)) w.heap.size 141 #[.slice A n c] := Blk.made _ _ _
  have bel0 : Below w.heap.size w (w.alloc (.cells #[.slice A n c] 141)) := bel_alloc0 (Below.refl _ _)
  go_loopw [3, 8] (fun v i wr => ∃ (t q : Nat), t ≤ n ∧ q ≤ t ∧ i = .int .i64 t ∧ Hid ((used (kOf ks) t).length = q) ∧ wr.ownsRow (w.heap.size + 1) 3 1 v q (numL .i64 (used (kOf ks) t)) ∧ Blk wr w.heap.size 141 #[.slice A n c] ∧ Below w.heap.size w wr) (fun _ i _ => n - (intOf i).toNat)
  case atStart => exact ⟨0, 0, by omega, by omega, rfl, rfl, World.ownsRow_nil _ _ _ _, bl0, bel0⟩
  case round =>
    clear bl0 bel0
    obtain ⟨t, q, ht, hq, rfl, hql, hown, bl, bel⟩ := hrel
    have hbl := bl.lt
    by_cases hlt : t < n
    · obtain ⟨b, off, x, rfl, hbb, hx, c0⟩ := num_cell (HA.out.below bel) HN.out hlt
      have hkx : kOf ks t = x := by simp [kOf, List.getD_eq_getElem?_getD, hx]
      have hus : used (kOf ks) (t + 1) = if x = 0 then used (kOf ks) t else used (kOf ks) t ++ [t] := by rw [used, hkx]
      have HUS := Lib.hid hus
      have x0 : (0 : Int) ≤ (t : Int) := by omega
      have x1 : (t : Int) < (n : Int) := by omega
      clear hx hkx hus
      by_cases hx0 : x = 0
      · have HU : Hid (used (kOf ks) (t + 1) = used (kOf ks) t) := by show _ = _; rw [HUS.out, if_pos hx0]
        subst hx0
        clear HUS
        go_wp2_with fail
        go_roundw
        case rel => go_light; exact ⟨t + 1, q, by omega, by omega, by go_num, by show _ = _; rw [HU.out]; exact hql.out, by rw [HU.out]; exact hown, bl, bel⟩
        case measure => go_light; simp [intOf]; omega
      · have HU : Hid (used (kOf ks) (t + 1) = used (kOf ks) t ++ [t]) := by show _ = _; rw [HUS.out, if_neg hx0]
        have xp : 0 < x := by omega
        obtain ⟨va, vc, rfl⟩ := own_shape hown
        have HO := Lib.hid hown
        have BL := Lib.hid bl
        have BEL := Lib.hid bel
        have hbs := bel.size
        clear HUS hx0 hown bel bl
        go_wp2_with (at_builtin; refine wpList_app rfl (.tmp 15) (.tmp 17) 57 rfl (w.heap.size + 1) 3 j0 _ 1 8 Tryz.underlying57 hj0 hy0 hy1 hy2 rfl (by decide) _ _ _ (by rfl) (HO.out.alloc _) _ 1 1 [.int .i64 t] (by rfl) (Src.of_blk (Blk.made _ _ _) 1 1 1 rfl) (by intro u hu; simp at hu; subst hu; rfl) (by unfold maxLen; omega) (by omega) (by simp; omega) ?_; intro v4 w4 hown4 hg4 hat4)
        go_roundw
        case measure => go_light; simp [intOf]; omega
        case rel =>
          go_light
          have hr : ∀ k, (Value.slice va q vc).ownBlock = some k → w.heap.size + 1 ≤ k := fun k hk => (World.ownsRow.lt HO.out k hk).1
          refine ⟨t + 1, q + 1, by omega, by omega, by go_num, ?_, ?_, ?_, ?_⟩
          · show _ = _; rw [HU.out, List.length_append, hql.out]; rfl
          · rw [HU.out, numL, List.map_append]; exact hown4
          · exact (BL.out.alloc _).grown hg4 (fun h => by have := hr _ h.symm; omega)
          · exact (bel_alloc hbs BEL.out).grown hg4 (by simp; omega) (fun k hk => by have := hr k hk; omega)
    · obtain rfl : t = n := by omega
      have hz := bel.size
      have hcell := bl.cell 0
      rcases hown.2 with ⟨rfl, hxs⟩ | ⟨g, cap, cur, rfl, hg, hh, hnc, hcap, hcs, htake⟩
      · subst hxs
        have e0 : order (kOf ks) t = [] := List.eq_nil_of_length_eq_zero (by rw [(order_perm _ _).length_eq]; exact hql.out)
        have E0 := Lib.hid e0
        clear e0 hown
        go_wp2_with fail
        refine (sortStable_nil _ _).mono ?_
        rintro e w5 ⟨rfl, rfl⟩
        go_wp2_with fail
        go_ret
        refine ⟨none, 0, ?_, ?_, bel⟩
        · rw [HN.out, E0.out]; rfl
        · rw [HN.out, E0.out]; exact Row.zero
      · have hd : Dat wr g q (fun i => (used (kOf ks) t).getD i 0) := used_dat hown hql.out
        have hcm : CmpOk w.heap.size g t wr (kOf ks) := by
          intro x y w2 hx hy hk
          refine less_any w2 w.heap.size w.heap.size t c x y A ks HN.out hx hy ((World.cell?_of_block (a := ⟨w.heap.size, 0, none⟩) (hk.block _ ⟨hbl, by show w.heap.size ≠ g; omega⟩)).trans hcell) ?_
          exact (HA.out.below bel).keep fun p hp => World.cell?_of_block (hk.block _ ⟨by omega, by omega⟩)
        have C := sortStable_any wr w.heap.size g q cap t (kOf ks) _ (by omega) (fun i j h1 h2 => used_getD_rising i j h1 (by rw [hql.out]; exact h2)) (by have := used_getD_lt (k := kOf ks) (m := t); rw [hql.out] at this; exact this) hd hcm
        have hgl := hd.lt
        have CC := Lib.hid C
        clear C hcm hd hh hcs htake hown
        go_wp2_with fail
        refine CC.out.mono ?_
        rintro e w5 ⟨rfl, f', hp, hok⟩
        obtain ⟨hl, hrow⟩ := sorted_row hp.1 hok hql.out
        have HL := Lib.hid hl
        have hb5 : Below w.heap.size w w5 := bel.trans (hp.2.below (fun b hb => ⟨by omega, by omega⟩))
        clear hp hok hl
        go_wp2_with fail
        go_ret
        refine ⟨some ⟨g, 0, none⟩, cap, ?_, ?_, hb5⟩
        · rw [HN.out, HL.out]; rfl
        · rw [HN.out, HL.out]; exact hrow
end Go.Proofs.YtidclmmnfienlaaGreatDoor.Lens

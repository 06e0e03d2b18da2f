/-
  The walk of package lens' used: the used numbers, those that are less often ahead. Plain: what the lengths are good for (chapter 7). Plain: what lens.Lens finds at limit 15 makes a coder. The walks of package lens' leaves and next: rows of items. The walk of lens.Lens. The walk of lens.Lens where two symbols or more are used.
-/
import Derived.Test.YtcafklmbehoggaaGreatDoorZBodyNone20
import Derived.Test.YtcafklmbehoggaaGreatDoorZBodyNone3
import Derived.Test.YtcafklmbehoggaaGreatDoorZBodyNone2
namespace Go.Proofs.YtcafklmbehoggaaGreatDoor.Lens
open Go.RowKit Go.Proofs.YtcafklmbehoggaaGreatDoor.Mem Go.Proofs.YtcafklmbehoggaaGreatDoor.Own Go.Proofs.YtcafklmbehoggaaGreatDoor.Srt Go.Proofs.YtcafklmbehoggaaGreatDoor.Canon
theorem nan_any (x : Nat) (w : World) : Calls Tryz.prog 294 #[.int .u32 x] w fun e w' => e = .returned (.bool false) ∧ w = w' := by
  go_enter Tryz.func294, Tryz.ntmps294
  go_wp2_with fail
  go_ret
  exact ⟨rfl, rfl⟩
theorem compare_any (a b : Nat) (w : World) : Calls Tryz.prog 286 #[.int .u32 a, .int .u32 b] w fun e w' => e = .returned (.int .i64 (cmp3 a b)) ∧ w = w' := by
  rcases Nat.lt_trichotomy a b with h | h | h
  · have e : cmp3 a b = -1 := by unfold cmp3; rw [if_pos h]
    rw [e]
    clear e
    go_enter Tryz.func286, Tryz.ntmps286
    go_wp2_with (go_at_call 294; refine (nan_any _ _).mono ?_; rintro e w' ⟨rfl, rfl⟩)
    go_ret
    exact ⟨rfl, rfl⟩
  · have e : cmp3 a b = 0 := by unfold cmp3; rw [if_neg (by omega), if_neg (by omega)]
    rw [e]
    subst h
    clear e
    go_enter Tryz.func286, Tryz.ntmps286
    go_wp2_with (go_at_call 294; refine (nan_any _ _).mono ?_; rintro e w' ⟨rfl, rfl⟩)
    go_ret
    exact ⟨rfl, rfl⟩
  · have e : cmp3 a b = 1 := by unfold cmp3; rw [if_neg (by omega), if_pos h]
    rw [e]
    have h' : ¬ a < b := by omega
    clear e
    go_enter Tryz.func286, Tryz.ntmps286
    go_wp2_with (go_at_call 294; refine (nan_any _ _).mono ?_; rintro e w' ⟨rfl, rfl⟩)
    go_ret
    exact ⟨rfl, rfl⟩
abbrev kOf (ks : List Nat) : Nat → Nat := fun s => ks.getD s 0
set_option maxRecDepth 100000 in
theorem less_any (w : World) (Bo B n c x y : Nat) (A : Option Addr) (ks : List Nat) (hn : ks.length = n) (hx : x < n) (hy : y < n) (hb : w.cell? ⟨Bo, 0, none⟩ = some (.slice A n c)) (ha : Row w B A n 1 (numF .u32 ks)) :
    Calls Tryz.prog 285 #[.int .i64 x, .int .i64 y, .pointer (some ⟨Bo, 0, none⟩)] w fun e w' => e = .returned (.int .i64 (cmp3 (kOf ks x) (kOf ks y))) ∧ ∃ q, w' = w.drewN q := by
  obtain ⟨b, off, v1, rfl, hbb, hv1, c1⟩ := num_cell ha hn hx
  obtain ⟨b', off', v2, e2, hbb', hv2, c2⟩ := num_cell ha hn hy
  injection e2 with e2
  injection e2 with e3 e4
  subst e3 e4
  have k1 : kOf ks x = v1 := by simp [kOf, List.getD_eq_getElem?_getD, hv1]
  have k2 : kOf ks y = v2 := by simp [kOf, List.getD_eq_getElem?_getD, hv2]
  rw [k1, k2]
  have x1 : (0 : Int) ≤ (x : Int) := by omega
  have x2 : (x : Int) < (n : Int) := by omega
  have x3 : (0 : Int) ≤ (y : Int) := by omega
  have x4 : (y : Int) < (n : Int) := by omega
  clear k1 k2 hv1 hv2 hn ha
  go_enter Tryz.func285, Tryz.ntmps285
  go_wp2_with fail
  go_quiet ((go_at_call 286; exact Calls.quiet_of_same ((compare_any _ _ _).mono (fun _ _ h => ⟨h.1, h.2.symm⟩))))
  go_wp2_with fail
  go_ret
  exact ⟨rfl, _, rfl⟩
theorem info_int2 : (Tryz.prog.info? 3).map (fun i => (i.zero, i.size, i.bytes)) = some (some (.int .i64 0), 1, 8) := by kernel_rfl
def UsedPost (ks : List Nat) (w : World) (e : Ending) (w' : World) : Prop :=
  ∃ A c, e = .returned (.slice A (order (kOf ks) ks.length).length c) ∧ Row w' w'.heap.size A (order (kOf ks) ks.length).length 1 (numF .i64 (order (kOf ks) ks.length)) ∧ Below w.heap.size w w'
theorem used_dat {w : World} {base g n c : Nat} {l : List Nat} (h : w.ownsRow base 3 1 (.slice (some ⟨g, 0, none⟩) n c) n (numL .i64 l)) (hl : l.length = n) : Dat w g n (fun i => l.getD i 0) := by
  rcases h.2 with ⟨hv, _⟩ | ⟨g', cap, cur, hv, _, hh, hnc, _, hcs, htake⟩
  · cases hv
  · injection hv with e1 e2 e3
    injection e1 with e1
    injection e1 with e1
    subst e1
    refine ⟨cur, hh, by omega, fun i hi => ?_⟩
    have h1 : (numL .i64 l)[i]? = some (.int .i64 (l.getD i 0 : Nat)) := by
      rw [numL, List.getElem?_map, List.getElem?_eq_getElem (by omega), List.getD_eq_getElem?_getD, List.getElem?_eq_getElem (by omega)]
      rfl
    rw [← htake, List.getElem?_take] at h1
    split at h1
    · simpa using h1
    · cases h1
theorem seg_list (l : List Nat) : seg (fun i => l.getD i 0) 0 l.length = l := by
  refine List.ext_getElem (by rw [seg_length]; rfl) fun i h1 h2 => ?_
  rw [seg_get, Nat.zero_add, List.getD_eq_getElem?_getD, List.getElem?_eq_getElem h2]
  rfl
theorem sor_seg {k f : Nat → Nat} {n : Nat} (h : Sor k f 0 n) : (seg f 0 n).Pairwise (Lt k) := by
  rw [List.pairwise_iff_getElem]
  intro i j hi hj hij
  rw [seg_length] at hj
  rw [seg_get, seg_get, Nat.zero_add, Nat.zero_add]
  exact h i j (Nat.zero_le _) hij (by omega)
theorem sorted_row {w : World} {g n : Nat} {k f : Nat → Nat} {m : Nat} (hd : Dat w g n f) (h : Ok k (fun i => (used k m).getD i 0) f 0 n) (hn : (used k m).length = n) : (order k m).length = n ∧ Row w w.heap.size (some ⟨g, 0, none⟩) n 1 (numF .i64 (order k m)) := by
  have e : seg f 0 n = order k m := order_unique (sor_seg h.1) (by
    have h2 := h.2
    rw [← hn, seg_list, hn] at h2
    exact h2)
  have hl : (order k m).length = n := by rw [← e, seg_length]; rfl
  refine ⟨hl, fun _ => ⟨g, 0, rfl, hd.lt, fun i j hi hj => ?_⟩⟩
  obtain rfl : j = 0 := by omega
  rw [Nat.mul_one, Nat.add_zero, Nat.zero_add, hd.cell hi]
  unfold numF
  rw [← e, List.getD_eq_getElem?_getD, List.getElem?_eq_getElem (by rw [seg_length]; omega), seg_get, Nat.zero_add]
  rfl
theorem used_getD_rising {k : Nat → Nat} {m : Nat} : ∀ i j, i < j → j < (used k m).length → (used k m).getD i 0 < (used k m).getD j 0 := by
  intro i j hij hj
  have h := List.pairwise_iff_getElem.1 (used_rising k m) i j (by omega) hj hij
  rw [List.getD_eq_getElem?_getD, List.getD_eq_getElem?_getD, List.getElem?_eq_getElem (by omega), List.getElem?_eq_getElem hj]
  exact h
theorem used_getD_lt {k : Nat → Nat} {m : Nat} : All m (used k m).length (fun i => (used k m).getD i 0) := fun i hi => by
  show (used k m).getD i 0 < m
  rw [List.getD_eq_getElem?_getD, List.getElem?_eq_getElem hi]
  exact (used_mem.1 (List.getElem_mem hi)).1
set_option maxHeartbeats 1000000 in
set_option maxRecDepth 100000 in
theorem used_any (w : World) (A : Option Addr) (n c : Nat) (ks : List Nat) (hn : ks.length = n) (hN : n ≤ 100000) (ha : Row w w.heap.size A n 1 (numF .u32 ks)) :
    Calls Tryz.prog 264 #[.slice A n c] w (UsedPost ks w) := by
  obtain ⟨j0, hj0, hy0, hy1, hy2⟩ := info_parts info_int2
  have HN := Lib.hid hn
  have HA := Lib.hid ha
  clear hn ha
  go_enter Tryz.func264, Tryz.ntmps264
  go_wp2_with fail
  have bl0 : Blk (w.alloc (.cells #[.slice A n c] 242)) w.heap.size 242 #[.slice A n c] := Blk.made _ _ _
  have bel0 : Below w.heap.size w (w.alloc (.cells #[.slice A n c] 242)) := bel_alloc0 (Below.refl _ _)
  go_loopw [3, 8] (fun v i wr => ∃ (t q : Nat), t ≤ n ∧ q ≤ t ∧ i = .int .i64 t ∧ Hid ((used (kOf ks) t).length = q) ∧ wr.ownsRow (w.heap.size + 1) 3 1 v q (numL .i64 (used (kOf ks) t)) ∧ Blk wr w.heap.size 242 #[.slice A n c] ∧ Below w.heap.size w wr) (fun _ i _ => n - (intOf i).toNat)
  case atStart => exact ⟨0, 0, by omega, by omega, rfl, rfl, World.ownsRow_nil _ _ _ _, bl0, bel0⟩
  case round =>
    clear bl0 bel0
    obtain ⟨t, q, ht, hq, rfl, hql, hown, bl, bel⟩ := hrel
    have hbl := bl.lt
    by_cases hlt : t < n
    · obtain ⟨b, off, x, rfl, hbb, hx, c0⟩ := num_cell (HA.out.below bel) HN.out hlt
      have hkx : kOf ks t = x := by simp [kOf, List.getD_eq_getElem?_getD, hx]
      have hus : used (kOf ks) (t + 1) = if x = 0 then used (kOf ks) t else used (kOf ks) t ++ [t] := by rw [used, hkx]
      have HUS := Lib.hid hus
      have x0 : (0 : Int) ≤ (t : Int) := by omega
      have x1 : (t : Int) < (n : Int) := by omega
      clear hx hkx hus
      by_cases hx0 : x = 0
      · have HU : Hid (used (kOf ks) (t + 1) = used (kOf ks) t) := by show _ = _; rw [HUS.out, if_pos hx0]
        subst hx0
        clear HUS
        go_wp2_with fail
        go_roundw
        case rel => go_light; exact ⟨t + 1, q, by omega, by omega, by go_num, by show _ = _; rw [HU.out]; exact hql.out, by rw [HU.out]; exact hown, bl, bel⟩
        case measure => go_light; simp [intOf]; omega
      · have HU : Hid (used (kOf ks) (t + 1) = used (kOf ks) t ++ [t]) := by show _ = _; rw [HUS.out, if_neg hx0]
        have xp : 0 < x := by omega
        obtain ⟨va, vc, rfl⟩ := own_shape hown
        have HO := Lib.hid hown
        have BL := Lib.hid bl
        have BEL := Lib.hid bel
        have hbs := bel.size
        clear HUS hx0 hown bel bl
        go_wp2_with (at_builtin; refine wpList_app rfl (.tmp 15) (.tmp 17) 42 rfl (w.heap.size + 1) 3 j0 _ 1 8 Tryz.underlying42 hj0 hy0 hy1 hy2 rfl (by decide) _ _ _ (by rfl) (HO.out.alloc _) _ 1 1 [.int .i64 t] (by rfl) (Src.of_blk (Blk.made _ _ _) 1 1 1 rfl) (by intro u hu; simp at hu; subst hu; rfl) (by unfold maxLen; omega) (by omega) (by simp; omega) ?_; intro v4 w4 hown4 hg4 hat4)
        go_roundw
        case measure => go_light; simp [intOf]; omega
        case rel =>
          go_light
          have hr : ∀ k, (Value.slice va q vc).ownBlock = some k → w.heap.size + 1 ≤ k := fun k hk => (World.ownsRow.lt HO.out k hk).1
          refine ⟨t + 1, q + 1, by omega, by omega, by go_num, ?_, ?_, ?_, ?_⟩
          · show _ = _; rw [HU.out, List.length_append, hql.out]; rfl
          · rw [HU.out, numL, List.map_append]; exact hown4
          · exact (BL.out.alloc _).grown hg4 (fun h => by have := hr _ h.symm; omega)
          · exact (bel_alloc hbs BEL.out).grown hg4 (by simp; omega) (fun k hk => by have := hr k hk; omega)
    · obtain rfl : t = n := by omega
      have hz := bel.size
      have hcell := bl.cell 0
      rcases hown.2 with ⟨rfl, hxs⟩ | ⟨g, cap, cur, rfl, hg, hh, hnc, hcap, hcs, htake⟩
      · subst hxs
        have e0 : order (kOf ks) t = [] := List.eq_nil_of_length_eq_zero (by rw [(order_perm _ _).length_eq]; exact hql.out)
        have E0 := Lib.hid e0
        clear e0 hown
        go_wp2_with fail
        refine (sortStable_nil _ _).mono ?_
        rintro e w5 ⟨rfl, rfl⟩
        go_wp2_with fail
        go_ret
        refine ⟨none, 0, ?_, ?_, bel⟩
        · rw [HN.out, E0.out]; rfl
        · rw [HN.out, E0.out]; exact Row.zero
      · have hd : Dat wr g q (fun i => (used (kOf ks) t).getD i 0) := used_dat hown hql.out
        have hcm : CmpOk w.heap.size g t wr (kOf ks) := by
          intro x y w2 hx hy hk
          refine less_any w2 w.heap.size w.heap.size t c x y A ks HN.out hx hy ((World.cell?_of_block (a := ⟨w.heap.size, 0, none⟩) (hk.block _ ⟨hbl, by show w.heap.size ≠ g; omega⟩)).trans hcell) ?_
          exact (HA.out.below bel).keep fun p hp => World.cell?_of_block (hk.block _ ⟨by omega, by omega⟩)
        have C := sortStable_any wr w.heap.size g q cap t (kOf ks) _ (by omega) (fun i j h1 h2 => used_getD_rising i j h1 (by rw [hql.out]; exact h2)) (by have := used_getD_lt (k := kOf ks) (m := t); rw [hql.out] at this; exact this) hd hcm
        have hgl := hd.lt
        have CC := Lib.hid C
        clear C hcm hd hh hcs htake hown
        go_wp2_with fail
        refine CC.out.mono ?_
        rintro e w5 ⟨rfl, f', hp, hok⟩
        obtain ⟨hl, hrow⟩ := sorted_row hp.1 hok hql.out
        have HL := Lib.hid hl
        have hb5 : Below w.heap.size w w5 := bel.trans (hp.2.below (fun b hb => ⟨by omega, by omega⟩))
        clear hp hok hl
        go_wp2_with fail
        go_ret
        refine ⟨some ⟨g, 0, none⟩, cap, ?_, ?_, hb5⟩
        · rw [HN.out, HL.out]; rfl
        · rw [HN.out, HL.out]; exact hrow
end Go.Proofs.YtcafklmbehoggaaGreatDoor.Lens
namespace Go.Proofs.YtcafklmbehoggaaGreatDoor.Lens
open Go.Proofs.YtcafklmbehoggaaGreatDoor.Srt Go.Proofs.YtcafklmbehoggaaGreatDoor.Canon
def lenS (ks : List Nat) (L s : Nat) : Nat :=
  if (order (kOf ks) ks.length).length < 2 then if s ∈ order (kOf ks) ks.length then 1 else 0
  else lenR (kOf ks) (order (kOf ks) ks.length) (L - 1) (2 * (order (kOf ks) ks.length).length - 2) s
theorem lensV_eq (ks : List Nat) (L : Nat) : lensV ks L = (List.range ks.length).map (lenS ks L) := by
  unfold lensV
  show (if (order (kOf ks) ks.length).length < 2 then _ else _) = _
  split
  · rename_i h
    refine List.map_congr_left fun s _ => ?_
    unfold lenS
    rw [if_pos h]
  · rename_i h
    refine List.map_congr_left fun s _ => ?_
    unfold lenS
    rw [if_neg h]
theorem ok_parts {ks : List Nat} {limit : Int} (h : lensE ks limit = 0) :
    ks.length ≤ 300 ∧ ∃ L : Nat, limit = L ∧ 1 ≤ L ∧ L ≤ 15 ∧ (order (kOf ks) ks.length).length ≤ 2 ^ L ∧ lensO ks limit = (List.range ks.length).map (lenS ks L) := by
  have h0 := h
  unfold lensE at h
  split at h
  · cases h
  · rename_i h1
    split at h
    · cases h
    · rename_i h2
      obtain ⟨L, rfl⟩ : ∃ L : Nat, limit = L := ⟨limit.toNat, by omega⟩
      refine ⟨by omega, L, rfl, by omega, by omega, Nat.le_of_not_lt h2, ?_⟩
      unfold lensO
      rw [if_pos h0, Int.toNat_natCast, lensV_eq]
theorem lensO_length {ks : List Nat} {limit : Int} (h : lensE ks limit = 0) : (lensO ks limit).length = ks.length := by
  obtain ⟨_, L, _, _, _, _, e⟩ := ok_parts h
  rw [e]; simp
theorem lenS_out {ks : List Nat} {L s : Nat} (h : s ∉ order (kOf ks) ks.length) : lenS ks L s = 0 := by
  unfold lenS
  split
  · rfl
  · exact lenR_out _ _ _ h
theorem sum_used {k f : Nat → Nat} (h : ∀ s, k s = 0 → f s = 0) : ∀ n, ((List.range n).map f).sum = sm f (used k n)
  | 0 => rfl
  | n + 1 => by
    rw [List.range_succ, List.map_append, List.sum_append, sum_used h n, used]
    split
    · rename_i h0
      simp [h n h0]
    · rw [sm_append]; simp [sm]
theorem sum_order {k f : Nat → Nat} (h : ∀ s, k s = 0 → f s = 0) (n : Nat) : ((List.range n).map f).sum = sm f (order k n) := by
  rw [sum_used h n, sm_perm (order_perm k n)]
theorem lenS_unused {ks : List Nat} {L s : Nat} (h : kOf ks s = 0) : lenS ks L s = 0 := lenS_out fun hs => (order_mem.1 hs).2 h
theorem lenS_in {ks : List Nat} {L s : Nat} (h1 : 1 ≤ L) (h : (order (kOf ks) ks.length).length ≤ 2 ^ L) (hs : s ∈ order (kOf ks) ks.length) : 1 ≤ lenS ks L s ∧ lenS ks L s ≤ L := by
  unfold lenS
  split
  · omega
  · have h2 := (full (order_sorted (kOf ks) ks.length) (by omega) h1 h).2 s hs
    have h3 := lenR_le (k := kOf ks) (S := order (kOf ks) ks.length) (L - 1) (2 * (order (kOf ks) ks.length).length - 2) s
    omega
theorem lenS_full {ks : List Nat} {L : Nat} (h1 : 1 ≤ L) (h : (order (kOf ks) ks.length).length ≤ 2 ^ L) (h2 : 2 ≤ (order (kOf ks) ks.length).length) : sm (fun s => 2 ^ (L - lenS ks L s)) (order (kOf ks) ks.length) = 2 ^ L := by
  have h3 := (full (order_sorted (kOf ks) ks.length) h2 h1 h).1
  rw [← h3]
  refine sm_congr fun s _ => ?_
  unfold lenS
  rw [if_neg (by omega)]
theorem kraft_lens {ks : List Nat} {limit : Int} (h : lensE ks limit = 0) : kraft (lensO ks limit) = if (order (kOf ks) ks.length).length = 0 then 0 else if (order (kOf ks) ks.length).length = 1 then 16384 else 32768 := by
  obtain ⟨hn, L, rfl, h1, h2, h3, e⟩ := ok_parts h
  unfold kraft
  rw [e, List.map_map, sum_order (k := kOf ks) (fun s hs => by simp [lenS_unused hs])]
  have e1 : sm ((fun x => if x = 0 then 0 else 2 ^ (15 - x)) ∘ lenS ks L) (order (kOf ks) ks.length) = sm (fun s => 2 ^ (15 - lenS ks L s)) (order (kOf ks) ks.length) := sm_congr fun s hs => by
    have := (lenS_in h1 h3 hs).1
    show (if lenS ks L s = 0 then 0 else _) = _
    rw [if_neg (by omega)]
  rw [e1]
  by_cases q0 : (order (kOf ks) ks.length).length = 0
  · rw [if_pos q0, List.eq_nil_of_length_eq_zero q0]; rfl
  · rw [if_neg q0]
    by_cases q1 : (order (kOf ks) ks.length).length = 1
    · rw [if_pos q1]
      have hx : ∀ s ∈ order (kOf ks) ks.length, 2 ^ (15 - lenS ks L s) = 16384 := fun s hs => by
        have : lenS ks L s = 1 := by unfold lenS; rw [if_pos (by omega), if_pos hs]
        rw [this]
      rw [sm_congr (g := fun _ => 16384) hx, sm_const, q1]
    · rw [if_neg q1]
      have hx : ∀ s ∈ order (kOf ks) ks.length, 2 ^ (15 - lenS ks L s) = 2 ^ (15 - L) * 2 ^ (L - lenS ks L s) := fun s hs => by
        have := (lenS_in h1 h3 hs).2
        rw [← Nat.pow_add]; congr 1; omega
      rw [sm_congr hx, sm_mul, lenS_full h1 h3 (by omega), ← Nat.pow_add, show 15 - L + L = 15 by omega]
theorem used_count {ks : List Nat} {limit : Int} (h : lensE ks limit = 0) : (lensO ks limit).countP (fun x => decide (x ≠ 0)) = (order (kOf ks) ks.length).length := by
  obtain ⟨hn, L, rfl, h1, h2, h3, e⟩ := ok_parts h
  have key : ∀ n, ((List.range n).map (lenS ks L)).countP (fun x => decide (x ≠ 0)) = ((List.range n).map fun s => if lenS ks L s = 0 then 0 else 1).sum := by
    intro n
    induction n with
    | zero => rfl
    | succ n ih =>
      rw [List.range_succ, List.map_append, List.map_append, List.countP_append, List.sum_append, ih]
      by_cases hz : lenS ks L n = 0 <;> simp [hz]
  rw [e, key, sum_order (k := kOf ks) (fun s hs => by rw [if_pos (lenS_unused hs)])]
  have hx : ∀ s ∈ order (kOf ks) ks.length, (if lenS ks L s = 0 then 0 else 1) = 1 := fun s hs => by
    have := (lenS_in h1 h3 hs).1
    rw [if_neg (by omega)]
  rw [sm_congr (g := fun _ => 1) hx, sm_const, Nat.mul_one]
theorem range_getD {n s : Nat} {f : Nat → Nat} (h : s < n) : ((List.range n).map f).getD s 0 = f s := by
  rw [List.getD_eq_getElem?_getD, List.getElem?_map, List.getElem?_range h]; rfl
end Go.Proofs.YtcafklmbehoggaaGreatDoor.Lens
namespace Go.Proofs.YtcafklmbehoggaaGreatDoor.Lens
open Go.Proofs.YtcafklmbehoggaaGreatDoor.Srt Go.Proofs.YtcafklmbehoggaaGreatDoor.Canon
theorem good_any {ks : List Nat} (hE : lensE ks 15 = 0) (hn : ks.length ≤ 300) : goodB (lensO ks 15) = true := by
  refine good_all (by rw [lensO_length hE]; exact hn) fun x hx => ?_
  obtain ⟨_, L, hL, h1, h2, h3, e⟩ := ok_parts hE
  rw [e] at hx
  obtain ⟨s, _, rfl⟩ := List.mem_map.1 hx
  by_cases hm : s ∈ order (kOf ks) ks.length
  · have := (lenS_in h1 h3 hm).2; omega
  · rw [lenS_out hm]; omega
theorem okB_lens {ks : List Nat} (hE : lensE ks 15 = 0) (hn : ks.length ≤ 300) : okB (lensO ks 15) = true := by
  have hg := good_any hE hn
  have hu := used_count hE
  have hk := kraft_lens hE
  have hc := checkE_ref hg
  have h0 : checkE (lensO ks 15) = 0 := by
    rw [hc, if_pos]
    by_cases q0 : (order (kOf ks) ks.length).length = 0
    · left; unfold Canon.used; rw [hu, q0]
    · by_cases q1 : (order (kOf ks) ks.length).length = 1
      · right; left
        refine ⟨by unfold Canon.used; rw [hu, q1], ?_⟩
        have : cnt (lensO ks 15) 1 = (lensO ks 15).countP (fun x => decide (x ≠ 0)) := by
          unfold cnt
          refine List.countP_congr fun x hx => ?_
          obtain ⟨_, L, hL, h1, h2, h3, e⟩ := ok_parts hE
          rw [e] at hx
          obtain ⟨s, _, rfl⟩ := List.mem_map.1 hx
          have hle : lenS ks L s ≤ 1 := by
            unfold lenS
            rw [if_pos (by omega)]
            split <;> omega
          simp
          omega
        rw [this, hu, q1]
      · right; right
        rw [hk, if_neg q0, if_neg q1]
  unfold checkE at h0
  split at h0
  · assumption
  · cases h0
end Go.Proofs.YtcafklmbehoggaaGreatDoor.Lens
namespace Go.Proofs.YtcafklmbehoggaaGreatDoor.Lens
open Go.RowKit Go.Proofs.YtcafklmbehoggaaGreatDoor.Mem Go.Proofs.YtcafklmbehoggaaGreatDoor.Own Go.Proofs.YtcafklmbehoggaaGreatDoor.Srt Go.Proofs.YtcafklmbehoggaaGreatDoor.Canon
def itL (X : List It) : List Value := X.flatMap fun x => [.int .u64 (x.1 : Nat), .bool (leafB x)]
def itF (X : List It) : Nat → Nat → Value := fun i j => if j = 0 then .int .u64 ((X.getD i (0, [])).1 : Nat) else .bool (leafB (X.getD i (0, [])))
theorem itL_append (a b : List It) : itL (a ++ b) = itL a ++ itL b := by simp [itL]
theorem itL_length (X : List It) : (itL X).length = X.length * 2 := by
  induction X with
  | nil => rfl
  | cons x t ih => simp only [itL, List.flatMap_cons, List.length_append, List.length_cons, List.length_nil] at ih ⊢; omega
theorem itL_get : ∀ (X : List It) (i j : Nat), i < X.length → j < 2 → (itL X)[i * 2 + j]? = some (itF X i j)
  | [], i, j, h, _ => by simp at h
  | x :: t, 0, j, _, hj => by
    have : j = 0 ∨ j = 1 := by omega
    rcases this with rfl | rfl <;> simp [itL, itF]
  | x :: t, i + 1, j, h, hj => by
    have := itL_get t i j (by simpa using h) hj
    rw [itL, List.flatMap_cons, show (i + 1) * 2 + j = (i * 2 + j) + 2 by omega, List.getElem?_append_right (by simp)]
    simpa [itF, itL] using this
def Its (X : List It) (t : Nat) (cs : Array Value) : Prop := cs.size = X.length * 2 ∧ ∀ i j, i < t → j < 2 → cs[i * 2 + j]? = some (itF X i j)
theorem Its.put {X : List It} {t : Nat} {cs : Array Value} (h : Its X t cs) (ht : t < X.length) {a b : Value} (ha : a = itF X t 0) (hb : b = itF X t 1) : Its X (t + 1) ((cs.setIfInBounds (t * 2) a).setIfInBounds (t * 2 + 1) b) := by
  refine ⟨by simpa using h.1, fun i j hi hj => ?_⟩
  have hs := h.1
  rw [Array.getElem?_setIfInBounds, Array.getElem?_setIfInBounds]
  by_cases e1 : t * 2 + 1 = i * 2 + j
  · have : i = t := by omega
    have hj1 : j = 1 := by omega
    subst this hj1
    rw [if_pos rfl, if_pos (by simp; omega), hb]
  · rw [if_neg e1]
    by_cases e2 : t * 2 = i * 2 + j
    · have : i = t := by omega
      have hj1 : j = 0 := by omega
      subst this hj1
      rw [if_pos (by omega), if_pos (by omega), ha]
    · rw [if_neg e2]
      exact h.2 i j (by omega) hj
theorem info_item : (Tryz.prog.info? 340).map (fun i => (i.zero, i.size, i.bytes)) = some (some (.agg #[.int .u64 0, .bool false]), 2, 16) := by kernel_rfl
theorem make_item (n : Nat) (hn : n ≤ 100000) (w : World) : (Instr.makeSlice 335 (.int .i64 (n : Int)) (.int .i64 (n : Int))).run Tryz.prog w =
    .ok (.slice (some ⟨w.heap.size, 0, none⟩) n n) (w.alloc (.cells (madeCells #[.int .u64 0, .bool false] (n * 2)) 340)) := by
  obtain ⟨i0, hi, hz0, hz1, hz2⟩ := info_parts info_item
  have h := run_make (P := Tryz.prog) w 335 340 i0 (.agg #[.int .u64 0, .bool false]) Tryz.underlying335 hi hz0 .i64 .i64 (n : Int) (n : Int) (by omega) (Int.le_refl _) (by rw [hz2]; omega) (by omega)
  simp only [Int.toNat_natCast] at h
  simpa [hz1, Value.cells] using h
def OwnIt (w : World) (base : Nat) (v : Value) (X : List It) : Prop := w.ownsRow base 340 2 v X.length (itL X)
theorem OwnIt.row {w : World} {base c : Nat} {A : Option Addr} {X : List It} (h : OwnIt w base (.slice A X.length c) X) : Row w w.heap.size A X.length 2 (itF X) := Row.of_own h rfl fun i j hi hj => itL_get X i j hi hj
theorem OwnIt.shape {w : World} {base : Nat} {v : Value} {X : List It} (h : OwnIt w base v X) : ∃ A c, v = .slice A X.length c := own_shape h
def ItPost (X : List It) (w : World) (e : Ending) (w' : World) : Prop := ∃ v, e = .returned v ∧ OwnIt w' w.heap.size v X ∧ Below w.heap.size w w'
set_option maxHeartbeats 1000000 in
set_option maxRecDepth 100000 in
theorem leaves_any (w : World) (A B : Option Addr) (n c m d : Nat) (ks S : List Nat) (hn : ks.length = n) (hm : S.length = m) (hN : n ≤ 100000) (hM : m ≤ n) (hS : ∀ s ∈ S, s < n) (h32 : ∀ x ∈ ks, x < 4294967296) (ha : Row w w.heap.size A n 1 (numF .u32 ks)) (hb : Row w w.heap.size B m 1 (numF .i64 S)) :
    Calls Tryz.prog 265 #[.slice A n c, .slice B m d] w (ItPost (lv (kOf ks) S) w) := by
  have HN := Lib.hid hn
  have HM := Lib.hid hm
  have HA := Lib.hid ha
  have HB := Lib.hid hb
  have HS := Lib.hid hS
  have H32 := Lib.hid h32
  have hmk := make_item m (by omega)
  clear hn hm ha hb hS h32
  go_enter Tryz.func265, Tryz.ntmps265
  go_wp2_with fail
  have bl0 : Blk (w.alloc (.cells (madeCells #[.int .u64 0, .bool false] (m * 2)) 340)) w.heap.size 340 _ := Blk.made _ _ _
  have bel0 : Below w.heap.size w (w.alloc (.cells (madeCells #[.int .u64 0, .bool false] (m * 2)) 340)) := bel_alloc0 (Below.refl _ _)
  have hI : Hid (Its (lv (kOf ks) S) 0 (madeCells #[.int .u64 0, .bool false] (m * 2))) := by
    refine ⟨?_, fun i j hi _ => by omega⟩
    rw [lv_length, HM.out]
    simp [madeCells]
  go_loopw [13] (fun i wr => ∃ (t : Nat) (cs : Array Value), t ≤ m ∧ i = .int .i64 t ∧ Hid (Its (lv (kOf ks) S) t cs) ∧ Blk wr w.heap.size 340 cs ∧ Below w.heap.size w wr) (fun i _ => m - (intOf i).toNat)
  case atStart => exact ⟨0, _, by omega, rfl, hI, bl0, bel0⟩
  case round =>
    clear bl0 bel0 hI
    obtain ⟨t, cs, ht, rfl, hI, bl, bel⟩ := hrel
    by_cases hlt : t < m
    · obtain ⟨b, off, s, rfl, hbb, hs, c0⟩ := num_cell (HB.out.below bel) HM.out hlt
      obtain ⟨b', off', x, rfl, hbb', hx, c1⟩ := num_cell (HA.out.below bel) HN.out (HS.out s (List.mem_of_getElem? hs))
      have hsn := HS.out s (List.mem_of_getElem? hs)
      have x0 : (0 : Int) ≤ (t : Int) := by omega
      have x1 : (t : Int) < (m : Int) := by omega
      have x2 : (0 : Int) ≤ (s : Int) := by omega
      have x3 : (s : Int) < (n : Int) := by omega
      have f0 := bl.frozen (t * 2)
      have f1 := bl.frozen (t * 2 + 1)
      have hsz : cs.size = m * 2 := by have := hI.out.1; rwa [lv_length, HM.out] at this
      have d0 := bl.cell (t * 2)
      have d1 := bl.cell (t * 2 + 1)
      rw [Array.getElem?_eq_getElem (by omega)] at d0 d1
      generalize cs[t * 2]'(by omega) = o0 at d0
      generalize cs[t * 2 + 1]'(by omega) = o1 at d1
      have h32 := H32.out x (List.mem_of_getElem? hx)
      have s1 : IntKind.u64.wrap (x : Int) = (x : Int) := by rw [IntKind.wrap_u64]; omega
      have hnx : Its (lv (kOf ks) S) (t + 1) ((cs.setIfInBounds (t * 2) (.int .u64 (x : Nat))).setIfInBounds (t * 2 + 1) (.bool true)) := by
        have hg : (lv (kOf ks) S).getD t (0, []) = (x, [s]) := by
          rw [List.getD_eq_getElem?_getD, lv, List.getElem?_map, hs]
          simp [kOf, List.getD_eq_getElem?_getD, hx]
        refine hI.out.put (by rw [lv_length, HM.out]; exact hlt) ?_ ?_
        · unfold itF; rw [if_pos rfl, hg]
        · unfold itF; rw [if_neg (by omega), hg]; rfl
      have HNX := Lib.hid hnx
      clear hsz hnx hs hx
      go_wp2_with fail
      go_roundw
      case rel => go_light; exact ⟨t + 1, _, by omega, by go_num, HNX, (bl.set _ _).set _ _, bel_set (p := ⟨w.heap.size, t * 2 + 1, none⟩) (Nat.le_refl _) (bel_set (p := ⟨w.heap.size, t * 2, none⟩) (Nat.le_refl _) bel)⟩
      case measure => go_light; simp [intOf]; omega
    · obtain rfl : t = m := by omega
      go_wp2_with fail
      go_ret
      refine ⟨_, rfl, ?_, bel⟩
      have e : (lv (kOf ks) S).length = t := by rw [lv_length, HM.out]
      refine ⟨?_, .inr ⟨w.heap.size, t, cs, by rw [e]; rfl, Nat.le_refl _, bl, by rw [e]; exact Nat.le_refl _, by unfold maxLen; omega, by rw [hI.out.1, e], ?_⟩⟩
      · rw [itL_length]
      · have hs := hI.out.1
        rw [e] at hs
        refine List.ext_getElem? fun i => ?_
        rw [List.getElem?_take]
        by_cases hi : i < (lv (kOf ks) S).length * 2
        · rw [if_pos hi]
          have h1 := hI.out.2 (i / 2) (i % 2) (by rw [e] at hi; omega) (by omega)
          have h2 := itL_get (lv (kOf ks) S) (i / 2) (i % 2) (by omega) (by omega)
          rw [show i / 2 * 2 + i % 2 = i by omega] at h1 h2
          rw [Array.getElem?_toList, h1, h2]
        · rw [if_neg hi, List.getElem?_eq_none]
          rw [itL_length]; omega
theorem row_it {w : World} {B n : Nat} {A : Option Addr} {X : List It} (h : Row w B A n 2 (itF X)) (hn : X.length = n) {k : Nat} (hk : k < n) :
    ∃ b off x, A = some ⟨b, off, none⟩ ∧ b < B ∧ X[k]? = some x ∧ w.cell? ⟨b, off + k * 2, none⟩ = some (.int .u64 (x.1 : Nat)) ∧ w.cell? ⟨b, off + k * 2 + 1, none⟩ = some (.bool (leafB x)) := by
  obtain ⟨b, off, e, hb, hc⟩ := h (by omega)
  have hl : k < X.length := by omega
  have h0 := hc k 0 hk (by omega)
  have h1 := hc k 1 hk (by omega)
  have hg : X.getD k (0, []) = X[k] := by rw [List.getD_eq_getElem?_getD, List.getElem?_eq_getElem hl]; rfl
  rw [itF, if_pos rfl, hg] at h0
  rw [itF, if_neg (by omega), hg] at h1
  exact ⟨b, off, X[k], e, hb, List.getElem?_eq_getElem hl, h0, h1⟩
def MAt (X Y : List It) (i k : Nat) (done : List It) : Prop := done ++ mrg (X.drop i) (pairs (Y.drop k)) = mrg X (pairs Y)
theorem MAt.len {X Y : List It} {i k : Nat} {done : List It} (h : MAt X Y i k done) : done.length ≤ X.length + Y.length := by
  have := congrArg List.length h
  rw [List.length_append, mrg_length, mrg_length, pairs_length, pairs_length] at this
  omega
theorem drop_at {α : Type} {l : List α} {i : Nat} {x : α} (h : l[i]? = some x) : l.drop i = x :: l.drop (i + 1) := by
  obtain ⟨hi, rfl⟩ := List.getElem?_eq_some_iff.1 h
  exact List.drop_eq_getElem_cons hi
theorem MAt.leaf {X Y : List It} {i k : Nat} {done : List It} {x : It} (h : MAt X Y i k done) (hx : X[i]? = some x) (hc : Y.length ≤ k + 1 ∨ ∃ y z, Y[k]? = some y ∧ Y[k + 1]? = some z ∧ x.1 ≤ y.1 + z.1) : MAt X Y (i + 1) k (done ++ [x]) := by
  unfold MAt at h ⊢
  rw [← h, drop_at hx, List.append_assoc]
  congr 1
  rcases hc with hc | ⟨y, z, hy, hz, hle⟩
  · rw [pairs_few (l := Y.drop k) (by rw [List.length_drop]; omega), mrg_right, mrg_right]; rfl
  · rw [drop_at hy, drop_at hz, pairs_two, mrg_le (by exact hle)]; rfl
theorem MAt.pair {X Y : List It} {i k : Nat} {done : List It} {y z : It} (h : MAt X Y i k done) (hy : Y[k]? = some y) (hz : Y[k + 1]? = some z) (hc : X.length ≤ i ∨ ∃ x, X[i]? = some x ∧ ¬ x.1 ≤ y.1 + z.1) : MAt X Y i (k + 2) (done ++ [(y.1 + z.1, y.2 ++ z.2)]) := by
  unfold MAt at h ⊢
  rw [← h, drop_at hy, drop_at hz, pairs_two, List.append_assoc]
  congr 1
  rcases hc with hc | ⟨x, hx, hgt⟩
  · rw [List.drop_of_length_le hc, mrg_left, mrg_left]; rfl
  · rw [drop_at hx, mrg_gt (by exact hgt)]; rfl
theorem MAt.done {X Y : List It} {i k : Nat} {done : List It} (h : MAt X Y i k done) (hi : X.length ≤ i) (hk : Y.length ≤ k + 1) : done = mrg X (pairs Y) := by
  unfold MAt at h
  rw [List.drop_of_length_le hi, mrg_left, pairs_few (by rw [List.length_drop]; omega), List.append_nil] at h
  exact h
theorem leaf_pair {y z : It} (hy : y.2 ≠ []) (hz : z.2 ≠ []) : leafB (y.1 + z.1, y.2 ++ z.2) = false := by
  have h1 := List.length_pos_iff.2 hy
  have h2 := List.length_pos_iff.2 hz
  unfold leafB
  rw [beq_eq_false_iff_ne, List.length_append]
  omega
set_option maxHeartbeats 1000000 in
set_option maxRecDepth 100000 in
theorem next_any (w : World) (A B : Option Addr) (n c m d M : Nat) (X Y : List It) (hn : X.length = n) (hm : Y.length = m) (hN : n ≤ 1000) (hM : m ≤ 1000) (hX : ∀ x ∈ X, leafB x = true) (hY : ∀ y ∈ Y, y.2 ≠ [] ∧ y.1 ≤ M) (hM2 : 2 * M < 18446744073709551616) (ha : Row w w.heap.size A n 2 (itF X)) (hb : Row w w.heap.size B m 2 (itF Y)) :
    Calls Tryz.prog 266 #[.slice A n c, .slice B m d] w (ItPost (mrg X (pairs Y)) w) := by
  have HN := Lib.hid hn
  have HM := Lib.hid hm
  have HA := Lib.hid ha
  have HB := Lib.hid hb
  have HX := Lib.hid hX
  have HY := Lib.hid hY
  obtain ⟨j0, hj0, hy0, hy1, hy2⟩ := info_parts info_item
  obtain ⟨h2, hh2⟩ : ∃ h2, h2 = m / 2 := ⟨_, rfl⟩
  have hmk : ∀ w, (Instr.makeSlice 335 (.int .i64 (0 : Int)) (.int .i64 ((n : Int) + (m : Int) / 2))).run Tryz.prog w =
      .ok (.slice (some ⟨w.heap.size, 0, none⟩) 0 (n + h2)) (w.alloc (.cells (madeCells #[.int .u64 0, .bool false] ((n + h2) * 2)) 340)) := by
    intro w
    have h := run_make (P := Tryz.prog) w 335 340 j0 (.agg #[.int .u64 0, .bool false]) Tryz.underlying335 hj0 hy0 .i64 .i64 0 ((n : Int) + (m : Int) / 2) (by omega) (by omega) (by rw [hy2]; omega) (by omega)
    rw [show ((n : Int) + (m : Int) / 2).toNat = n + h2 by omega] at h
    simpa [hy1, Value.cells] using h
  have hh3 : h2 ≤ m := by omega
  clear hn hm ha hb hX hY hh2
  go_enter Tryz.func266, Tryz.ntmps266
  go_wp2_with fail
  have hown0 : (w.alloc (.cells (madeCells #[.int .u64 0, .bool false] ((n + h2) * 2)) 340)).ownsRow w.heap.size 340 2 (.slice (some ⟨w.heap.size, 0, none⟩) 0 (n + h2)) 0 (itL []) := World.ownsRow_made w _ _ (Nat.le_refl _) (by unfold maxLen; omega) (size_madeCells _ _)
  have bel0 : Below w.heap.size w (w.alloc (.cells (madeCells #[.int .u64 0, .bool false] ((n + h2) * 2)) 340)) := bel_alloc0 (Below.refl _ _)
  go_loopw [5, 6, 7] (fun v iv kv wr => ∃ (i k q : Nat) (done : List It), i ≤ n ∧ k ≤ m ∧ q ≤ 2001 ∧ iv = .int .i64 i ∧ kv = .int .i64 k ∧ Hid (done.length = q) ∧ wr.ownsRow w.heap.size 340 2 v q (itL done) ∧ Hid (MAt X Y i k done) ∧ Below w.heap.size w wr) (fun _ i k _ => (n - (intOf i).toNat) + (m - (intOf k).toNat))
  case atStart => exact ⟨0, 0, 0, [], by omega, by omega, by omega, rfl, rfl, rfl, hown0, rfl, bel0⟩
  case round =>
    clear bel0 hown0 hmk
    obtain ⟨i, k, q, done, hi, hk, hq, rfl, rfl, hql, hown, hat, bel⟩ := hrel
    have hbs := bel.size
    have hq2 : q ≤ n + m := by have := hat.out.len; rw [hql.out, HN.out, HM.out] at this; exact this
    obtain ⟨va, vc, rfl⟩ := own_shape hown
    have hr : Hid (∀ k, (Value.slice va q vc).ownBlock = some k → w.heap.size ≤ k) := fun k hk => (World.ownsRow.lt hown k hk).1
    have x0 : (0 : Int) ≤ (i : Int) := by omega
    have z0 : (0 : Int) ≤ (k : Int) := by omega
    by_cases hk1 : k + 1 < m
    · obtain ⟨b, off, y, rfl, hbb, hy, c0, _⟩ := row_it (HB.out.below bel) HM.out (k := k) (by omega)
      obtain ⟨b', off', z, e2, hbb', hz, c1, _⟩ := row_it (HB.out.below bel) HM.out (k := k + 1) (by omega)
      injection e2 with e2
      injection e2 with e3 e4
      subst e3 e4
      have hyw := HY.out y (List.mem_of_getElem? hy)
      have hzw := HY.out z (List.mem_of_getElem? hz)
      have hlf := leaf_pair hyw.1 hzw.1
      have hpair := hat.out.pair hy hz
      have hleaf := fun x hx hle => hat.out.leaf (x := x) hx (.inr ⟨y, z, hy, hz, hle⟩)
      have hy1' := hyw.2
      have hz1' := hzw.2
      obtain ⟨ya, ys⟩ := y
      obtain ⟨za, zs⟩ := z
      simp only at c0 c1 hlf hpair hleaf hy1' hz1'
      obtain ⟨ww, hww⟩ : ∃ ww, ww = ya + za := ⟨_, rfl⟩
      rw [← hww] at hlf hpair hleaf
      have HPAIR := Lib.hid hpair
      have HLEAF := Lib.hid hleaf
      have HLF := Lib.hid hlf
      have E : Hid ((ya : Int) + (za : Int) = (ww : Int)) := by show _ = _; omega
      have s3 : IntKind.u64.wrap ((ya : Int) + (za : Int)) = (ya : Int) + (za : Int) := by rw [IntKind.wrap_u64]; omega
      have s1 : IntKind.i64.wrap ((k : Int) + 1) = (k : Int) + 1 := IntWalk.i64_in _ (by omega)
      have z1 : (k : Int) < (m : Int) := by omega
      have z2 : (0 : Int) ≤ (k : Int) + 1 := by omega
      have z3 : (k : Int) + 1 < (m : Int) := by omega
      have z5 : ((k : Int) + 1).toNat = k + 1 := by omega
      have S135 : Hid (((k : Int) + 1).toNat = k + 1 ∧ IntKind.i64.wrap ((k : Int) + 1) = (k : Int) + 1 ∧ IntKind.u64.wrap ((ya : Int) + (za : Int)) = (ya : Int) + (za : Int)) := ⟨z5, s1, s3⟩
      have HO := Lib.hid hown
      have BEL := Lib.hid bel
      clear hy hz hyw hzw hlf hpair hleaf hww s1 s3 z5 hown bel
      by_cases hin : i < n
      · obtain ⟨b2, off2, x, rfl, hbb2, hx, d0, d1⟩ := row_it (HA.out.below BEL.out) HN.out hin
        obtain ⟨xa, xs⟩ := x
        simp only at d0
        have x1 : (i : Int) < (n : Int) := by omega
        have HXX := Lib.hid hx
        obtain ⟨lb, hlb⟩ : ∃ lb, lb = leafB (xa, xs) := ⟨_, rfl⟩
        rw [← hlb] at d1
        have HLB := Lib.hid hlb
        clear hx hlb
        by_cases hle : xa ≤ ww
        · go_wp2_with fail
          obtain ⟨z5, s1, s3⟩ := S135.out
          go_quiet (fail)
          clear z5 s1 s3
          rw [E.out]
          have hown2 : (wr.drewN nq).ownsRow w.heap.size 340 2 (.slice va q vc) q (itL done) := own_kept HO.out (fun _ _ => rfl)
          have bel2 : Below w.heap.size w (wr.drewN nq) := below_drewN BEL.out nq
          have d0' : (wr.drewN nq).cell? ⟨b2, off2 + i * 2, none⟩ = some (.int .u64 (xa : Nat)) := d0
          have d1' : (wr.drewN nq).cell? ⟨b2, off2 + i * 2 + 1, none⟩ = some (.bool lb) := d1
          have hbs2 : w.heap.size ≤ (wr.drewN nq).heap.size := hbs
          generalize wr.drewN nq = wq at *
          have HO2 := Lib.hid hown2
          have BEL2 := Lib.hid bel2
          clear hown2 bel2 d0 d1 c0 c1 HO BEL
          go_wp2_with (at_builtin; refine wpList_app rfl (.tmp 66) (.tmp 71) 335 rfl w.heap.size 340 j0 _ 2 16 Tryz.underlying335 hj0 hy0 hy1 hy2 rfl (by decide) _ _ _ (by rfl) (HO2.out.alloc _) _ 1 1 [.int .u64 (xa : Nat), .bool lb] (by rfl) (Src.of_blk (Blk.made _ _ _) 1 1 2 rfl) (by intro u hu; simp at hu; rcases hu with rfl | rfl <;> rfl) (by unfold maxLen; omega) (by omega) (by simp; omega) ?_; intro v4 w4 hown4 hg4 hat4)
          go_roundw
          case measure => go_light; simp [intOf]; omega
          case rel =>
            go_light
            refine ⟨i + 1, k, q + 1, done ++ [(xa, xs)], by omega, by omega, by omega, by go_num, rfl, ?_, ?_, HLEAF.out _ HXX.out hle, (bel_alloc hbs2 BEL2.out).grown hg4 (by simp; omega) (fun k hk => hr.out k hk)⟩
            · show _ = _; rw [List.length_append, hql.out]; rfl
            · rw [itL_append]; rw [HLB.out] at hown4; exact hown4
        · have hlt2 : ww < xa := by omega
          go_wp2_with fail
          obtain ⟨z5, s1, s3⟩ := S135.out
          go_quiet (fail)
          clear z5 s1 s3
          rw [E.out]
          have hown2 : (wr.drewN nq).ownsRow w.heap.size 340 2 (.slice va q vc) q (itL done) := own_kept HO.out (fun _ _ => rfl)
          have bel2 : Below w.heap.size w (wr.drewN nq) := below_drewN BEL.out nq
          have hbs2 : w.heap.size ≤ (wr.drewN nq).heap.size := hbs
          have d0' : (wr.drewN nq).cell? ⟨b2, off2 + i * 2, none⟩ = some (.int .u64 (xa : Nat)) := d0
          clear d0 d1
          generalize wr.drewN nq = wq at *
          have HO2 := Lib.hid hown2
          have BEL2 := Lib.hid bel2
          clear hown2 bel2 c0 c1 HO BEL
          go_wp2_with (at_builtin; refine wpList_app rfl (.tmp 75) (.tmp 78) 335 rfl w.heap.size 340 j0 _ 2 16 Tryz.underlying335 hj0 hy0 hy1 hy2 rfl (by decide) _ _ _ (by rfl) (HO2.out.alloc _) _ 1 1 [.int .u64 (ww : Nat), .bool false] (by rfl) (Src.of_blk (Blk.made _ _ _) 1 1 2 rfl) (by intro u hu; simp at hu; rcases hu with rfl | rfl <;> rfl) (by unfold maxLen; omega) (by omega) (by simp; omega) ?_; intro v4 w4 hown4 hg4 hat4)
          go_roundw
          case measure => go_light; simp [intOf]; omega
          case rel =>
            go_light
            refine ⟨i, k + 2, q + 1, done ++ [(ww, ys ++ zs)], by omega, by omega, by omega, rfl, by go_num, ?_, ?_, HPAIR.out (.inr ⟨_, HXX.out, by omega⟩), (bel_alloc hbs2 BEL2.out).grown hg4 (by simp; omega) (fun k hk => hr.out k hk)⟩
            · show _ = _; rw [List.length_append, hql.out]; rfl
            · rw [itL_append]; rw [← HLF.out] at hown4; exact hown4
      · go_wp2_with fail
        obtain ⟨z5, s1, s3⟩ := S135.out
        go_quiet (fail)
        clear z5 s1 s3
        rw [E.out]
        have hown2 : (wr.drewN nq).ownsRow w.heap.size 340 2 (.slice va q vc) q (itL done) := own_kept HO.out (fun _ _ => rfl)
        have bel2 : Below w.heap.size w (wr.drewN nq) := below_drewN BEL.out nq
        have hbs2 : w.heap.size ≤ (wr.drewN nq).heap.size := hbs
        generalize wr.drewN nq = wq at *
        have HO2 := Lib.hid hown2
        have BEL2 := Lib.hid bel2
        clear hown2 bel2 c0 c1 HO BEL
        go_wp2_with (at_builtin; refine wpList_app rfl (.tmp 75) (.tmp 78) 335 rfl w.heap.size 340 j0 _ 2 16 Tryz.underlying335 hj0 hy0 hy1 hy2 rfl (by decide) _ _ _ (by rfl) (HO2.out.alloc _) _ 1 1 [.int .u64 (ww : Nat), .bool false] (by rfl) (Src.of_blk (Blk.made _ _ _) 1 1 2 rfl) (by intro u hu; simp at hu; rcases hu with rfl | rfl <;> rfl) (by unfold maxLen; omega) (by omega) (by simp; omega) ?_; intro v4 w4 hown4 hg4 hat4)
        go_roundw
        case measure => go_light; simp [intOf]; omega
        case rel =>
          go_light
          refine ⟨i, k + 2, q + 1, done ++ [(ww, ys ++ zs)], by omega, by omega, by omega, rfl, by go_num, ?_, ?_, HPAIR.out (.inl (by rw [HN.out]; omega)), (bel_alloc hbs2 BEL2.out).grown hg4 (by simp; omega) (fun k hk => hr.out k hk)⟩
          · show _ = _; rw [List.length_append, hql.out]; rfl
          · rw [itL_append]; rw [← HLF.out] at hown4; exact hown4
    · have hk2 : m ≤ k + 1 := by omega
      by_cases hin : i < n
      · obtain ⟨b2, off2, x, rfl, hbb2, hx, d0, d1⟩ := row_it (HA.out.below bel) HN.out hin
        obtain ⟨xa, xs⟩ := x
        simp only at d0
        have x1 : (i : Int) < (n : Int) := by omega
        have HXX := Lib.hid hx
        obtain ⟨lb, hlb⟩ : ∃ lb, lb = leafB (xa, xs) := ⟨_, rfl⟩
        rw [← hlb] at d1
        have HLB := Lib.hid hlb
        have HLEAF := Lib.hid (hat.out.leaf (x := (xa, xs)) hx (.inl (by rw [HM.out]; exact hk2)))
        have HO2 := Lib.hid hown
        have BEL2 := Lib.hid bel
        have hbs2 := hbs
        clear hx hlb hown bel
        go_wp2_with (at_builtin; refine wpList_app rfl (.tmp 32) (.tmp 37) 335 rfl w.heap.size 340 j0 _ 2 16 Tryz.underlying335 hj0 hy0 hy1 hy2 rfl (by decide) _ _ _ (by rfl) (HO2.out.alloc _) _ 1 1 [.int .u64 (xa : Nat), .bool lb] (by rfl) (Src.of_blk (Blk.made _ _ _) 1 1 2 rfl) (by intro u hu; simp at hu; rcases hu with rfl | rfl <;> rfl) (by unfold maxLen; omega) (by omega) (by simp; omega) ?_; intro v4 w4 hown4 hg4 hat4)
        go_roundw
        case measure => go_light; simp [intOf]; omega
        case rel =>
          go_light
          refine ⟨i + 1, k, q + 1, done ++ [(xa, xs)], by omega, by omega, by omega, by go_num, rfl, ?_, ?_, HLEAF.out, (bel_alloc hbs2 BEL2.out).grown hg4 (by simp; omega) (fun k hk => hr.out k hk)⟩
          · show _ = _; rw [List.length_append, hql.out]; rfl
          · rw [itL_append]; rw [HLB.out] at hown4; exact hown4
      · have hdone := hat.out.done (by rw [HN.out]; omega) (by rw [HM.out]; exact hk2)
        have hlen : (mrg X (pairs Y)).length = q := by rw [← hdone]; exact hql.out
        have HD := Lib.hid hdone
        have HLN := Lib.hid hlen
        clear hdone hlen
        go_wp2_with fail
        go_ret
        refine ⟨_, rfl, ?_, bel⟩
        show World.ownsRow _ _ _ _ _ _ _
        rw [HLN.out, ← HD.out]
        exact hown
end Go.Proofs.YtcafklmbehoggaaGreatDoor.Lens
namespace Go.Proofs.YtcafklmbehoggaaGreatDoor.Lens
open Go.RowKit Go.Proofs.YtcafklmbehoggaaGreatDoor.Mem Go.Proofs.YtcafklmbehoggaaGreatDoor.Own Go.Proofs.YtcafklmbehoggaaGreatDoor.Srt Go.Proofs.YtcafklmbehoggaaGreatDoor.Canon
def LensPostN (ks : List Nat) (limit : Int) (w : World) (e : Ending) (w' : World) : Prop :=
  ∃ A c, e = .returned (.tuple #[.slice A (lensO ks limit).length c, .int .i64 (lensE ks limit)]) ∧ Row w' w'.heap.size A (lensO ks limit).length 1 (numF .u8 (lensO ks limit)) ∧ Wf A (lensO ks limit).length c ∧ Below w.heap.size w w' ∧ (0 < (lensO ks limit).length → ∀ p, A = some p → w.heap.size ≤ p.block)
theorem lensPost_no {ks : List Nat} {limit : Int} {w w' : World} {e : Ending} {x : Int} (hx : x ≠ 0) (h : lensE ks limit = x) (he : e = .returned (.tuple #[.slice none 0 0, .int .i64 x])) (hb : Below w.heap.size w w') : LensPostN ks limit w e w' := by
  have h0 : lensO ks limit = [] := by unfold lensO; rw [if_neg (by rw [h]; exact hx)]
  refine ⟨none, 0, ?_, ?_, ?_, hb, fun _ p hp => by cases hp⟩
  · rw [he, h0, h]; rfl
  · rw [h0]; exact Row.zero
  · rw [h0]; exact Wf.nil
set_option maxRecDepth 100000 in
theorem lens_bad (w : World) (A : Option Addr) (n c : Nat) (ks : List Nat) (limit : Int) (hn : ks.length = n) (hN : n ≤ 9223372036854775807) (hl1 : -9223372036854775808 ≤ limit) (hl2 : limit ≤ 9223372036854775807) (h : n > 300 ∨ limit < 1 ∨ limit > 15) :
    Calls Tryz.prog 230 #[.slice A n c, .int .i64 limit] w (LensPostN ks limit w) := by
  have hE : Hid (lensE ks limit = 13) := by show _ = _; unfold lensE; rw [hn, if_pos h]
  clear hn
  by_cases h1 : 300 < n
  · clear h
    go_enter Tryz.func230, Tryz.ntmps230
    go_wp2_with fail
    go_ret2
    exact lensPost_no (by decide) hE.out rfl (Below.refl _ _)
  · have g1 : decide ((300 : Int) < (n : Int)) = false := by simp; omega
    have g2 : decide (300 < n) = false := by simp; omega
    by_cases h2 : limit < 1
    · clear h
      have g3 : decide (limit < 1) = true := by simpa using h2
      go_enter Tryz.func230, Tryz.ntmps230
      go_wp2_with fail
      go_ret2
      exact lensPost_no (by decide) hE.out rfl (Below.refl _ _)
    · have h3 : 15 < limit := by omega
      have g3 : decide (limit < 1) = false := by simp; omega
      have g4 : decide (15 < limit) = true := by simpa using h3
      clear h
      go_enter Tryz.func230, Tryz.ntmps230
      go_wp2_with fail
      go_ret2
      exact lensPost_no (by decide) hE.out rfl (Below.refl _ _)
theorem pow_wrap {L : Nat} (h : L ≤ 15) : wrap64 ((2 : Int) ^ L) = ((2 ^ L : Nat) : Int) := by
  have h1 : 2 ^ L ≤ 2 ^ 15 := Nat.pow_le_pow_right (by omega) h
  have e : (2 : Int) ^ L = ((2 ^ L : Nat) : Int) := by simp
  rw [e]
  generalize 2 ^ L = p at *
  have h2 : p ≤ 32768 := h1
  unfold wrap64
  omega
set_option maxRecDepth 100000 in
theorem lens_limit (w : World) (A : Option Addr) (n c L : Nat) (ks : List Nat) (hn : ks.length = n) (hN : n ≤ 300) (hl1 : 1 ≤ L) (hl2 : L ≤ 15) (h : 2 ^ L < (order (kOf ks) n).length) (ha : Row w w.heap.size A n 1 (numF .u32 ks)) :
    Calls Tryz.prog 230 #[.slice A n c, .int .i64 L] w (LensPostN ks L w) := by
  have hE : Hid (lensE ks L = 6) := by
    show _ = _
    unfold lensE
    rw [if_neg (by omega), if_pos]
    rw [hn]; exact h
  have C := used_any w A n c ks hn (by omega) ha
  unfold UsedPost at C
  have HN := Lib.hid hn
  rw [hn] at C
  have C := Lib.hid C
  have g1 : decide ((300 : Int) < (n : Int)) = false := by simp; omega
  have g2 : decide (300 < n) = false := by simp; omega
  have g3 : decide ((L : Int) < 1) = false := by simp; omega
  have g4 : decide ((15 : Int) < (L : Int)) = false := by simp; omega
  have g5 : decide (L < 1) = false := by simp; omega
  have g6 : decide (15 < L) = false := by simp; omega
  clear ha hn
  have t1 : decide (wrap64 ((2 : Int) ^ L) < ((order (kOf ks) n).length : Int)) = true := by rw [pow_wrap hl2]; exact decide_eq_true (Int.ofNat_lt.2 h)
  generalize order (kOf ks) n = S at *
  go_enter Tryz.func230, Tryz.ntmps230
  go_wp2_with fail
  refine C.out.mono ?_
  rintro e w1 ⟨A1, c1, rfl, hrow, hb1⟩
  go_wp2_with fail
  go_ret2
  exact lensPost_no (by decide) hE.out rfl hb1
theorem info_u8' : (Tryz.prog.info? 5).map (fun i => (i.zero, i.size, i.bytes)) = some (some (.int .u8 0), 1, 1) := by kernel_rfl
theorem make_u8 (n : Nat) (hn : n ≤ 8388608) (w : World) : (Instr.makeSlice 29 (.int .i64 (n : Int)) (.int .i64 (n : Int))).run Tryz.prog w =
    .ok (.slice (some ⟨w.heap.size, 0, none⟩) n n) (w.alloc (.cells (madeCells #[.int .u8 0] n) 5)) := by
  obtain ⟨i0, hi, hz0, hz1, hz2⟩ := info_parts info_u8'
  have h := run_make (P := Tryz.prog) w 29 5 i0 (.int .u8 0) Tryz.underlying29 hi hz0 .i64 .i64 (n : Int) (n : Int) (by omega) (Int.le_refl _) (by rw [hz2]; omega) (by omega)
  simp only [Int.toNat_natCast] at h
  simpa [hz1, Value.cells] using h
def U8s (f : Nat → Nat) (n : Nat) (cs : Array Value) : Prop := cs.size = n ∧ ∀ i, i < n → cs[i]? = some (.int .u8 (f i : Nat))
theorem U8s.made (n : Nat) : U8s (fun _ => 0) n (madeCells #[.int .u8 0] n) := by
  refine ⟨size_madeCells _ _, fun i hi => ?_⟩
  simp [madeCells, hi, Nat.mod_one]
theorem U8s.set {f g : Nat → Nat} {n : Nat} {cs : Array Value} (h : U8s f n cs) {i v : Nat} (hv : g i = v) (ho : ∀ j, j ≠ i → g j = f j) : U8s g n (cs.setIfInBounds i (.int .u8 (v : Nat))) := by
  refine ⟨by simpa using h.1, fun j hj => ?_⟩
  have hs := h.1
  rw [Array.getElem?_setIfInBounds]
  by_cases e : i = j
  · subst e
    rw [if_pos rfl, if_pos (by omega), hv]
  · rw [if_neg e, h.2 j hj, ho j (Ne.symm e)]
theorem U8s.row {w : World} {g n : Nat} {f : Nat → Nat} {cs : Array Value} {l : List Nat} (h : U8s f n cs) (hb : Blk w g 5 cs) (hl : l = (List.range n).map f) : Row w w.heap.size (some ⟨g, 0, none⟩) n 1 (numF .u8 l) := by
  subst hl
  refine Row.of_blk hb hb.lt fun i j hi hj => ?_
  obtain rfl : j = 0 := by omega
  rw [Nat.mul_one, Nat.add_zero, h.2 i hi]
  unfold numF
  rw [List.getD_eq_getElem?_getD, List.getElem?_map, List.getElem?_range hi]
  rfl
theorem lensPost_yes {ks : List Nat} {limit : Int} {w w' : World} {e : Ending} {g n : Nat} {f : Nat → Nat} {cs : Array Value} (hE : lensE ks limit = 0) (hl : lensV ks limit.toNat = (List.range n).map f)
    (h : U8s f n cs) (hb : Blk w' g 5 cs) (he : e = .returned (.tuple #[.slice (some ⟨g, 0, none⟩) n n, .int .i64 0])) (hbel : Below w.heap.size w w') (hg : w.heap.size ≤ g) : LensPostN ks limit w e w' := by
  have h0 : lensO ks limit = (List.range n).map f := by unfold lensO; rw [if_pos hE, hl]
  have hlen : (lensO ks limit).length = n := by rw [h0]; simp
  refine ⟨some ⟨g, 0, none⟩, n, ?_, ?_, ?_, hbel, fun _ p hp => by cases hp; exact hg⟩
  · rw [he, hE, hlen]
  · rw [hlen]; exact h.row hb h0
  · rw [hlen]; exact Wf.some (Nat.le_refl _)
set_option maxRecDepth 100000 in
theorem lens_few (w : World) (A : Option Addr) (n c L : Nat) (ks : List Nat) (hn : ks.length = n) (hN : n ≤ 300) (hl1 : 1 ≤ L) (hl2 : L ≤ 15) (h : (order (kOf ks) n).length < 2) (ha : Row w w.heap.size A n 1 (numF .u32 ks)) :
    Calls Tryz.prog 230 #[.slice A n c, .int .i64 L] w (LensPostN ks L w) := by
  have hp2 : 2 ≤ 2 ^ L := by have := Nat.pow_le_pow_right (n := 2) (by omega) hl1; simpa using this
  have hE : Hid (lensE ks L = 0) := by
    show _ = _
    unfold lensE
    rw [if_neg (by omega), if_neg]
    rw [hn]
    show ¬ 2 ^ L < (order (kOf ks) n).length
    omega
  have C := used_any w A n c ks hn (by omega) ha
  unfold UsedPost at C
  have HN := Lib.hid hn
  rw [hn] at C
  have C := Lib.hid C
  have g1 : decide ((300 : Int) < (n : Int)) = false := by simp; omega
  have g2 : decide (300 < n) = false := by simp; omega
  have g3 : decide ((L : Int) < 1) = false := by simp; omega
  have g4 : decide ((15 : Int) < (L : Int)) = false := by simp; omega
  have g5 : decide (L < 1) = false := by simp; omega
  have g6 : decide (15 < L) = false := by simp; omega
  have t1 : decide (wrap64 ((2 : Int) ^ L) < ((order (kOf ks) n).length : Int)) = false := by rw [pow_wrap hl2]; exact decide_eq_false (by rw [Int.ofNat_lt]; omega)
  have hV : Hid (lensV ks L = (List.range n).map fun s => if s ∈ order (kOf ks) n then 1 else 0) := by
    show _ = _
    unfold lensV
    rw [hn]
    show (if (order (kOf ks) n).length < 2 then _ else _) = _
    rw [if_pos h]
  have HS : Hid (∀ s ∈ order (kOf ks) n, s < n) := fun s hs => (order_mem.1 hs).1
  have hmk := make_u8 n (by omega)
  clear ha hn
  generalize order (kOf ks) n = S at *
  have h2 : S.length = 0 ∨ S.length = 1 := by omega
  rcases h2 with h2 | h2
  · obtain rfl : S = [] := List.eq_nil_of_length_eq_zero h2
    clear h2 h
    simp only [List.length_nil] at C
    have t2 : decide (wrap64 ((2 : Int) ^ L) < 0) = false := t1
    clear t1
    go_enter Tryz.func230, Tryz.ntmps230
    go_wp2_with fail
    refine C.out.mono ?_
    rintro e w1 ⟨A1, c1, rfl, hrow, hb1⟩
    go_wp2_with fail
    go_ret2
    refine lensPost_yes hE.out (by rw [Int.toNat_natCast, hV.out]) (cs := madeCells #[.int .u8 0] n) ?_ (Blk.made _ _ _) rfl (bel_alloc hb1.size hb1) hb1.size
    have := U8s.made n
    simpa using this
  · obtain ⟨s, rfl⟩ : ∃ s, S = [s] := List.length_eq_one_iff.1 h2
    clear h2 h
    simp only [List.length_cons, List.length_nil, Nat.zero_add] at C
    have t2 : decide (wrap64 ((2 : Int) ^ L) < 1) = false := t1
    clear t1
    have hs := HS.out s (by simp)
    go_enter Tryz.func230, Tryz.ntmps230
    go_wp2_with fail
    refine C.out.mono ?_
    rintro e w1 ⟨A1, c1, rfl, hrow, hb1⟩
    obtain ⟨b, off, x, rfl, hbb, hx, c0⟩ := num_cell hrow (by simp) (i := 0) (by omega)
    simp at hx
    subst hx
    have hz1 := hb1.size
    have bl := Blk.made w1 5 (madeCells #[.int .u8 0] n)
    have hU := U8s.made n
    have d0 := bl.cell s
    rw [hU.2 s hs] at d0
    have f0 := bl.frozen s
    have HU : Hid (U8s (fun i => if i ∈ [s] then 1 else 0) n ((madeCells #[.int .u8 0] n).setIfInBounds s (.int .u8 1))) := hU.set (v := 1) (by simp) (fun j hj => by simp [hj])
    have hbl := hb1
    clear hU
    have x2 : (0 : Int) ≤ (s : Int) := by omega
    have x3 : (s : Int) < (n : Int) := by omega
    rw [Nat.add_zero] at c0
    go_wp2_with fail
    go_ret2
    exact lensPost_yes hE.out (by rw [Int.toNat_natCast, hV.out]) HU.out (Blk.made _ _ _) rfl (bel_alloc hz1 hbl) hz1
def RowsAt (w : World) (base : Nat) (k : Nat → Nat) (S : List Nat) (lf v : Value) (vals : List Value) : Prop :=
  OwnIt w base lf (lv k S) ∧ w.ownsRow base 335 1 v vals.length vals ∧ ∀ i x, vals[i]? = some x → OwnIt w base x (rowN (lv k S) i)
theorem OwnIt.kept {w w' : World} {base : Nat} {v : Value} {X : List It} (h : OwnIt w base v X) (hk : ∀ g, v.ownBlock = some g → w'.heap[g]? = w.heap[g]?) : OwnIt w' base v X := own_kept h hk
theorem RowsAt.kept {w w' : World} {base : Nat} {k : Nat → Nat} {S : List Nat} {lf v : Value} {vals : List Value} (h : RowsAt w base k S lf v vals) (hk : ∀ g, base ≤ g → g < w.heap.size → w'.heap[g]? = w.heap[g]?) : RowsAt w' base k S lf v vals := by
  obtain ⟨h1, h2, h3⟩ := h
  refine ⟨h1.kept (fun g hg => ?_), own_kept h2 (fun g hg => ?_), fun i x hx => (h3 i x hx).kept (fun g hg => ?_)⟩
  · have := World.ownsRow.lt h1 g hg
    exact hk g this.1 this.2
  · have := World.ownsRow.lt h2 g hg
    exact hk g this.1 this.2
  · have := World.ownsRow.lt (h3 i x hx) g hg
    exact hk g this.1 this.2
theorem RowsAt.push {w w' : World} {base : Nat} {k : Nat → Nat} {S : List Nat} {lf v v' x : Value} {vals : List Value} (h : RowsAt w base k S lf v vals) (hx : OwnIt w base x (rowN (lv k S) vals.length))
    (ho : w'.ownsRow base 335 1 v' (vals.length + 1) (vals ++ [x])) (hg : w.grownBy w' v.ownBlock) : RowsAt w' base k S lf v' (vals ++ [x]) := by
  obtain ⟨h1, h2, h3⟩ := h
  have keep : ∀ (y : Value) (X : List It), OwnIt w base y X → OwnIt w' base y X := fun y X hy => hy.kept fun g hgy => by
    refine hg.block g (World.ownsRow.lt hy g hgy).2 ?_
    rcases own_apart hy h2 (by decide) with h0 | h0
    · rw [h0] at hgy; cases hgy
    · rw [← hgy]; exact h0
  refine ⟨keep _ _ h1, by simpa using ho, fun i y hy => ?_⟩
  rw [List.getElem?_append] at hy
  split at hy
  · exact keep y _ (h3 i y hy)
  · have hi : i - vals.length < [x].length := (List.getElem?_eq_some_iff.1 hy).1
    have hm := List.mem_of_getElem? hy
    simp at hm hi
    subst hm
    have : i = vals.length := by omega
    rw [this]
    exact keep y _ hx
theorem RowsAt.at_ {w : World} {base : Nat} {k : Nat → Nat} {S : List Nat} {lf v : Value} {vals : List Value} (h : RowsAt w base k S lf v vals) {i : Nat} (hi : i < vals.length) :
    ∃ g cap A c, v = .slice (some ⟨g, 0, none⟩) vals.length cap ∧ base ≤ g ∧ g < w.heap.size ∧ w.cell? ⟨g, i, none⟩ = some (.slice A (rowN (lv k S) i).length c) ∧ OwnIt w base (.slice A (rowN (lv k S) i).length c) (rowN (lv k S) i) := by
  obtain ⟨h1, h2, h3⟩ := h
  have hv : vals[i]? = some vals[i] := List.getElem?_eq_getElem hi
  have ho := h3 i _ hv
  obtain ⟨A, c, hs⟩ := ho.shape
  rcases h2.2 with ⟨_, h0⟩ | ⟨g, cap, cur, hv', hb, hh, hnc, hcap, hcs, htake⟩
  · omega
  · refine ⟨g, cap, A, c, hv', hb, Blk.lt hh, ?_, by rw [hs] at ho; exact ho⟩
    have h4 : vals[i]? = cur[i]? := by
      have h5 : (cur.toList.take (vals.length * 1))[i]? = vals[i]? := by rw [htake]
      rw [← h5, List.getElem?_take, if_pos (by omega)]; simp
    rw [Blk.cell (t := 335) hh, ← h4, hv, hs]
theorem OwnIt.cells {w : World} {base c : Nat} {A : Option Addr} {X : List It} (h : OwnIt w base (.slice A X.length c) X) (h0 : 0 < X.length) :
    ∃ g, A = some ⟨g, 0, none⟩ ∧ base ≤ g ∧ g < w.heap.size ∧ X.length ≤ c ∧ c ≤ maxLen ∧ ∀ i x, X[i]? = some x → w.cell? ⟨g, i * 2, none⟩ = some (.int .u64 (x.1 : Nat)) ∧ w.cell? ⟨g, i * 2 + 1, none⟩ = some (.bool (leafB x)) := by
  rcases h.2 with ⟨_, h1⟩ | ⟨g, cap, cur, hv, hb, hh, hnc, hcap, hcs, htake⟩
  · omega
  · injection hv with e1 e2 e3
    subst e1 e3
    refine ⟨g, rfl, hb, Blk.lt hh, hnc, hcap, fun i x hx => ?_⟩
    have hi : i < X.length := (List.getElem?_eq_some_iff.1 hx).1
    have hg : X.getD i (0, []) = x := by rw [List.getD_eq_getElem?_getD, hx]; rfl
    have key : ∀ j, j < 2 → w.cell? ⟨g, i * 2 + j, none⟩ = some (itF X i j) := fun j hj => by
      rw [Blk.cell (t := 340) hh, ← itL_get X i j hi hj, ← htake, List.getElem?_take, if_pos (by omega)]
      simp
    have k0 := key 0 (by omega)
    have k1 := key 1 (by omega)
    rw [itF, if_pos rfl, hg] at k0
    rw [itF, if_neg (by omega), hg] at k1
    exact ⟨k0, k1⟩
def restR (k : Nat → Nat) (S : List Nat) : Nat → Nat → Nat → Nat
  | 0, _, _ => 0
  | R + 1, t, s => lenR k S R t s
def takeOk (k : Nat → Nat) (S : List Nat) (R t : Nat) : Prop := R = 0 ∨ t ≤ (rowN (lv k S) (R - 1)).length
theorem restR_step {k : Nat → Nat} {S : List Nat} (R t s : Nat) (ht : t ≤ (rowN (lv k S) R).length) :
    restR k S (R + 1) t s = (if s ∈ S.take (nl (rowN (lv k S) R) t) then 1 else 0) + restR k S R (2 * (t - nl (rowN (lv k S) R) t)) s ∧ takeOk k S R (2 * (t - nl (rowN (lv k S) R) t)) := by
  rcases R with _ | R
  · exact ⟨rfl, .inl rfl⟩
  · obtain ⟨n, q, h1, h2, h3, h4, _⟩ := row_take R t ht
    refine ⟨rfl, .inr ?_⟩
    rw [h4, Nat.add_sub_cancel]
    rw [show t - n = q by omega]
    exact h3
def CntAt (k : Nat → Nat) (S : List Nat) (L : Nat) (R t : Nat) (f : Nat → Nat) : Prop := ∀ s, lenR k S (L - 1) (2 * S.length - 2) s = f s + restR k S R t s
def InAt (S : List Nat) (f0 f : Nat → Nat) (m : Nat) : Prop := ∀ s, f s = f0 s + if s ∈ S.take m then 1 else 0
theorem InAt.step {S : List Nat} {f0 f : Nat → Nat} {m s : Nat} (hS : S.Nodup) (h : InAt S f0 f m) (hs : S[m]? = some s) : InAt S f0 (fun j => if j = s then f s + 1 else f j) (m + 1) ∧ f s = f0 s := by
  have hlt : m < S.length := (List.getElem?_eq_some_iff.1 hs).1
  have htk : S.take (m + 1) = S.take m ++ [s] := by rw [List.take_add_one, hs]; rfl
  have hn : s ∉ S.take m := by
    intro hm
    have h2 := hS.sublist (List.take_sublist (m + 1) S)
    rw [htk, List.nodup_append] at h2
    exact h2.2.2 s hm s (by simp) rfl
  have h1 := h s
  rw [if_neg hn] at h1
  refine ⟨fun j => ?_, by omega⟩
  show (if j = s then f s + 1 else f j) = _
  rw [htk]
  by_cases e : j = s
  · subst e
    rw [if_pos rfl, if_pos (by simp)]; omega
  · rw [if_neg e, h j]
    simp [e]
theorem nl_le (X : List It) (i : Nat) : nl X i ≤ i := by
  unfold nl
  have := List.countP_le_length (p := leafB) (l := X.take i)
  rw [List.length_take] at this
  omega
theorem run_head {P : Program} {t e : TypeId} {s : Nat} (ht : P.underlying t = some (.slice e)) (hs : ∀ w, (sizeOf e).run P w = .ok s w) (A : Option Addr) (len cap : Nat) (kh : IntKind) (h : Int) (m : Nat) (hh : h = m) (hm : m ≤ cap) (w : World) :
    (Instr.slice t (.slice A len cap) none (some (.int kh h)) none).run P w = .ok (.slice (cutA A 0 cap s) m cap) w := by
  subst hh
  have he : P.elem t = e := by simp [Program.elem, ht]
  rw [run_slice_h w t A len cap (by rw [he]; exact ht) kh (m : Int) (by omega) (by omega), he, hs]
  rfl
end Go.Proofs.YtcafklmbehoggaaGreatDoor.Lens
namespace Go.Proofs.YtcafklmbehoggaaGreatDoor.Lens
open Go.RowKit Go.Proofs.YtcafklmbehoggaaGreatDoor.Mem Go.Proofs.YtcafklmbehoggaaGreatDoor.Own Go.Proofs.YtcafklmbehoggaaGreatDoor.Srt Go.Proofs.YtcafklmbehoggaaGreatDoor.Canon
theorem info_rows : (Tryz.prog.info? 335).map (fun i => (i.zero, i.size, i.bytes)) = some (some (.slice none 0 0), 1, 24) := by kernel_rfl
def lenOf : Value → Nat
  | .slice _ n _ => n
  | _ => 0
structure Syms (ks : List Nat) (n : Nat) (S : List Nat) : Prop where
  sorted : S.Pairwise (Lt (kOf ks))
  nodup : S.Nodup
  below : ∀ s ∈ S, s < n
  small : ∀ s ∈ S, kOf ks s ≤ 4294967295
  two : 2 ≤ S.length
  few : S.length ≤ 300
  le : S.length ≤ n
theorem row_small {ks S : List Nat} {n : Nat} (h : Syms ks n S) {r : Nat} (hr : r ≤ 14) : (∀ y ∈ rowN (lv (kOf ks) S) r, y.2 ≠ [] ∧ y.1 ≤ 70368744161280) ∧ S.length ≤ (rowN (lv (kOf ks) S) r).length ∧ (rowN (lv (kOf ks) S) r).length ≤ 2 * S.length := by
  have h2 := h.two
  refine ⟨fun y hy => ⟨row_syms r y hy, ?_⟩, ?_, ?_⟩
  · have h1 := row_weight h.small r y hy
    have h3 : 2 ^ r ≤ 2 ^ 14 := Nat.pow_le_pow_right (by omega) hr
    have h4 : 2 ^ r * 4294967295 ≤ 2 ^ 14 * 4294967295 := Nat.mul_le_mul_right _ h3
    omega
  · rcases r with _ | r
    · rw [row_length_zero]; exact Nat.le_refl _
    · rw [row_length_succ]; omega
  · have h3 := row_length (k := kOf ks) (S := S) (by omega) r
    generalize (S.length - 1) / 2 ^ r = d at h3
    omega
theorem pairs_le {ks S : List Nat} {n : Nat} (h : Syms ks n S) {R t : Nat} (hR : R ≤ 14) (ht : t ≤ (rowN (lv (kOf ks) S) R).length) : t - nl (rowN (lv (kOf ks) S) R) t ≤ S.length := by
  rcases R with _ | R
  · rw [row_length_zero] at ht
    rw [nl_row0 t ht]; omega
  · obtain ⟨n', q, h1, h2, h3, h4, _⟩ := row_take R t ht
    have h5 := (row_small h (r := R) (by omega)).2.2
    rw [h4]; omega
theorem restR_le {k : Nat → Nat} {S : List Nat} {L R t : Nat} {f : Nat → Nat} (h : CntAt k S L R t f) (hL : 1 ≤ L) (s : Nat) : f s ≤ L := by
  have h1 := h s
  have h2 := lenR_le (k := k) (S := S) (L - 1) (2 * S.length - 2) s
  omega
set_option maxHeartbeats 4000000 in
set_option maxRecDepth 100000 in
theorem lens_many (w : World) (A : Option Addr) (n c L : Nat) (ks : List Nat) (hn : ks.length = n) (hN : n ≤ 300) (hl1 : 1 ≤ L) (hl2 : L ≤ 15) (h : 2 ≤ (order (kOf ks) n).length) (hp : (order (kOf ks) n).length ≤ 2 ^ L) (h32 : ∀ x ∈ ks, x < 4294967296) (ha : Row w w.heap.size A n 1 (numF .u32 ks)) :
    Calls Tryz.prog 230 #[.slice A n c, .int .i64 L] w (LensPostN ks L w) := by
  have hE : Hid (lensE ks L = 0) := by
    show _ = _
    unfold lensE
    rw [if_neg (by omega), if_neg]
    rw [hn]
    show ¬ 2 ^ L < (order (kOf ks) n).length
    omega
  have C := used_any w A n c ks hn (by omega) ha
  unfold UsedPost at C
  have HN := Lib.hid hn
  rw [hn] at C
  have g1 : decide ((300 : Int) < (n : Int)) = false := by simp; omega
  have g2 : decide (300 < n) = false := by simp; omega
  have g3 : decide ((L : Int) < 1) = false := by simp; omega
  have g4 : decide ((15 : Int) < (L : Int)) = false := by simp; omega
  have g5 : decide (L < 1) = false := by simp; omega
  have g6 : decide (15 < L) = false := by simp; omega
  have t1 : decide (wrap64 ((2 : Int) ^ L) < ((order (kOf ks) n).length : Int)) = false := by rw [pow_wrap hl2]; exact decide_eq_false (by rw [Int.ofNat_lt]; omega)
  have hV : Hid (lensV ks L = (List.range n).map (lenR (kOf ks) (order (kOf ks) n) (L - 1) (2 * (order (kOf ks) n).length - 2))) := by
    show _ = _
    unfold lensV
    rw [hn]
    show (if (order (kOf ks) n).length < 2 then _ else _) = _
    rw [if_neg (by omega)]
  have HS : Hid (Syms ks n (order (kOf ks) n)) := by
    refine ⟨order_sorted _ _, order_nodup _ _, fun s hs => (order_mem.1 hs).1, fun s hs => ?_, h, by have := order_length (kOf ks) n; omega, order_length (kOf ks) n⟩
    have hsn := (order_mem.1 hs).1
    have : kOf ks s = ks[s]'(by omega) := by simp [kOf, List.getD_eq_getElem?_getD, List.getElem?_eq_getElem (show s < ks.length by omega)]
    rw [this]
    have := h32 _ (List.getElem_mem (show s < ks.length by omega))
    omega
  have htake : Hid (2 * (order (kOf ks) n).length - 2 ≤ (rowN (lv (kOf ks) (order (kOf ks) n)) (L - 1)).length) := row_long hl1 (by omega) hp
  have hmk := make_u8 n (by omega)
  have HA := Lib.hid ha
  have H32 := Lib.hid h32
  obtain ⟨j0, hj0, hy0, hy1, hy2⟩ := info_parts info_rows
  clear ha hn hp h32
  generalize order (kOf ks) n = S at *
  obtain ⟨q, hq⟩ : ∃ q, S.length = q := ⟨_, rfl⟩
  have HQ := Lib.hid hq
  have hq1 : q ≤ 300 := by have := HS.out.few; omega
  have hqn : q ≤ n := by have := HS.out.le; omega
  rw [hq] at C t1 h
  have CC := Lib.hid C
  have q1 : ((q : Int) == 1) = false := by simp; omega
  have q2 : decide ((q : Int) < 2) = false := by simp; omega
  have q3 : decide (q < 2) = false := by simp; omega
  clear hq C
  go_enter Tryz.func230, Tryz.ntmps230
  go_wp2_with fail
  refine CC.out.mono ?_
  rintro e w1 ⟨A1, c1, rfl, hrow, hb1⟩
  have hz1 := hb1.size
  go_wp2_with fail
  have bl2 : Blk (w1.alloc (.cells (madeCells #[.int .u8 0] n) 5)) w1.heap.size 5 _ := Blk.made _ _ _
  have hb2 : Below w.heap.size w (w1.alloc (.cells (madeCells #[.int .u8 0] n) 5)) := bel_alloc hz1 hb1
  have hr2 := hrow.alloc (Nat.le_refl _) (.cells (madeCells #[.int .u8 0] n) 5)
  have hz2 := bl2.lt
  generalize w1.alloc (.cells (madeCells #[.int .u8 0] n) 5) = w2 at *
  have HR2 := Lib.hid hr2
  have hbs2 := hb2.size
  clear hrow hr2 hb1 CC hmk t1
  refine (leaves_any w2 A A1 n c q c1 ks S HN.out HQ.out (by omega) hqn HS.out.below H32.out ((HA.out.below hb2).mono hbs2) (HR2.out.mono (by omega))).mono ?_
  rintro e w3 ⟨v3, rfl, hown3, hb3⟩
  obtain ⟨A3, c3, rfl⟩ := hown3.shape
  have hlen0 : (lv (kOf ks) S).length = q := by rw [lv_length, HQ.out]
  have hb3s := hb3.size
  have hrows : RowsAt (w3.alloc (.cells #[.slice A3 (lv (kOf ks) S).length c3] 335)) w2.heap.size (kOf ks) S (.slice A3 (lv (kOf ks) S).length c3) (.slice (some ⟨w3.heap.size, 0, none⟩) 1 1) [.slice A3 (lv (kOf ks) S).length c3] := by
    have ho : OwnIt (w3.alloc (.cells #[.slice A3 (lv (kOf ks) S).length c3] 335)) w2.heap.size (.slice A3 (lv (kOf ks) S).length c3) (lv (kOf ks) S) :=
      OwnIt.kept hown3 (fun g hg => Below.heap_alloc w3 _ g (World.ownsRow.lt hown3 g hg).2)
    refine ⟨ho, ⟨rfl, .inr ⟨w3.heap.size, 1, #[.slice A3 (lv (kOf ks) S).length c3], rfl, hb3s, heap_alloc_new w3 _, Nat.le_refl _, by unfold maxLen; omega, rfl, rfl⟩⟩, fun i x hx => ?_⟩
    rcases i with _ | i
    · simp at hx; subst hx; exact ho
    · simp at hx
  have hbel4 : Below w2.heap.size w2 (w3.alloc (.cells #[.slice A3 (lv (kOf ks) S).length c3] 335)) := bel_alloc hb3s hb3
  rw [hlen0] at *
  have HROWS := Lib.hid hrows
  clear hrows hlen0 hown3
  go_wp2_with fail
  go_loopw [9] (fun v wr => ∃ (r : Nat) (g cap : Nat) (vals : List Value), 1 ≤ r ∧ r ≤ L ∧ v = .slice (some ⟨g, 0, none⟩) r cap ∧ Hid (vals.length = r) ∧ Hid (RowsAt wr w2.heap.size (kOf ks) S (.slice A3 q c3) v vals) ∧ Below w2.heap.size w2 wr) (fun v _ => L - (lenOf v))
  case atStart => exact ⟨1, w3.heap.size, 1, [.slice A3 q c3], by omega, hl1, rfl, by show _ = _; rfl, HROWS, hbel4⟩
  case round => as_aux_lemma =>
    clear hbel4 HROWS hb3
    obtain ⟨r, g, cap, vals, hr1, hr2, rfl, hvl, hR, bel⟩ := hrel
    have hbs := bel.size
    by_cases hlt : r < L
    · have hrl : r - 1 < vals.length := by rw [hvl.out]; omega
      obtain ⟨g', cap', Ai, ci, hv, hg, hgl, hcell, hown⟩ := hR.out.at_ hrl
      injection hv with e1 e2 e3
      injection e1 with e1
      injection e1 with e1
      subst e1
      have hsm := row_small HS.out (r := r - 1) (by omega)
      rw [HQ.out] at hsm
      have hnx : rowN (lv (kOf ks) S) vals.length = mrg (lv (kOf ks) S) (pairs (rowN (lv (kOf ks) S) (r - 1))) := by
        rw [hvl.out]
        obtain ⟨r', rfl⟩ : ∃ r', r = r' + 1 := ⟨r - 1, by omega⟩
        rfl
      have hleaf := hR.out.1
      have hlv : (lv (kOf ks) S).length = q := by rw [lv_length, HQ.out]
      have hleafr : Row wr wr.heap.size A3 q 2 (itF (lv (kOf ks) S)) := by
        have h1 := hleaf
        rw [← hlv] at h1
        have h2 := h1.row
        rw [hlv] at h2
        exact h2
      have hrowr := hown.row
      obtain ⟨m, hm⟩ : ∃ m, m = (rowN (lv (kOf ks) S) (r - 1)).length := ⟨_, rfl⟩
      rw [← hm] at hcell hown hrowr hsm
      have CN := Lib.hid (next_any wr A3 Ai q c3 m ci 70368744161280 (lv (kOf ks) S) (rowN (lv (kOf ks) S) (r - 1)) hlv hm.symm (by omega) (by omega) lv_leaf hsm.1 (by omega) hleafr hrowr)
      have HNX := Lib.hid hnx
      have x0 : (0 : Int) ≤ (r : Int) - 1 := by omega
      have x1 : (r : Int) - 1 < (r : Int) := by omega
      have x2 : ((r : Int) - 1).toNat = r - 1 := by omega
      have x3 : IntKind.i64.wrap ((r : Int) - 1) = (r : Int) - 1 := IntWalk.i64_in _ (by omega)
      clear hm hsm hnx hleaf hleafr hrowr hown hlv e2 e3
      clear x2 x3
      go_wp2_with fail
      refine CN.out.mono ?_
      rintro e w5 ⟨v5, rfl, hown5, hb5⟩
      obtain ⟨A5, c5, rfl⟩ := hown5.shape
      have hbs5 := hb5.size
      rw [← HNX.out] at hown5
      obtain ⟨m5, hm5⟩ : ∃ m5, m5 = (rowN (lv (kOf ks) S) vals.length).length := ⟨_, rfl⟩
      have hR5 := hR.out.kept (w' := w5) (fun g _ hlt => hb5.block g hlt)
      have hRa : RowsAt (w5.alloc (.cells #[.slice A5 m5 c5] 335)) w2.heap.size (kOf ks) S (.slice A3 q c3) (.slice (some ⟨g, 0, none⟩) r cap) vals := hR5.kept (fun g _ hlt => Below.heap_alloc w5 _ g hlt)
      have hown5' : OwnIt w5 w2.heap.size (.slice A5 (rowN (lv (kOf ks) S) vals.length).length c5) (rowN (lv (kOf ks) S) vals.length) := own_mono hown5 hbs
      rw [← hm5] at hown5'
      have hOa : OwnIt (w5.alloc (.cells #[.slice A5 m5 c5] 335)) w2.heap.size (.slice A5 m5 c5) (rowN (lv (kOf ks) S) vals.length) := hown5'.kept (fun g hg => Below.heap_alloc w5 _ g (World.ownsRow.lt hown5' g hg).2)
      have hrow := hRa.2.1
      rw [hvl.out] at hrow
      have hbel5 : Below w2.heap.size w2 (w5.alloc (.cells #[.slice A5 m5 c5] 335)) := bel_alloc (by omega) (bel_step hb5 hbs bel)
      have e5 : (mrg (lv (kOf ks) S) (pairs (rowN (lv (kOf ks) S) (r - 1)))).length = m5 := by rw [hm5, HNX.out]
      rw [e5]
      have HRA := Lib.hid hRa
      have HOA := Lib.hid hOa
      have HROW := Lib.hid hrow
      have HB5 := Lib.hid hbel5
      clear e5 hm5 hown5 hown5' hR5 hRa hOa hrow hbel5 hcell CN hb5
      go_wp2_with (at_builtin; refine wpList_app rfl (.tmp 57) (.tmp 66) 337 rfl w2.heap.size 335 j0 _ 1 24 Tryz.underlying337 hj0 hy0 hy1 hy2 rfl (by decide) _ _ _ (by rfl) HROW.out _ 1 1 [.slice A5 m5 c5] (by rfl) (Src.of_blk (Blk.made _ _ _) 1 1 1 rfl) (by intro u hu; simp at hu; subst hu; rfl) (by unfold maxLen; omega) (by omega) (by simp; omega) ?_; intro v6 w6 hown6 hg6 hat6)
      go_roundw
      case rel =>
        go_light
        obtain ⟨g6, cap6, hv6⟩ := own_shape1 hown6
        subst hv6
        have hpush := HRA.out.push HOA.out (by rw [hvl.out]; exact hown6) hg6
        refine ⟨r + 1, g6, cap6, vals ++ [.slice A5 m5 c5], by omega, by omega, rfl, ?_, Lib.hid hpush, HB5.out.grown hg6 (by simp; omega) (fun k hk => (World.ownsRow.lt HROW.out k hk).1)⟩
        show _ = _
        rw [List.length_append, hvl.out]; rfl
      case measure =>
        go_light
        obtain ⟨g6, cap6, hv6⟩ := own_shape1 hown6
        subst hv6
        simp [lenOf]; omega
    · obtain rfl : L = r := by omega
      have hbl : Blk wr w1.heap.size 5 (madeCells #[.int .u8 0] n) := bl2.below bel hz2
      have hrow6 : Row wr w1.heap.size A1 q 1 (numF .i64 S) := HR2.out.below (bel.mono (by omega))
      have hb6 : Below w.heap.size w wr := hb2.trans (bel.mono hbs2)
      obtain ⟨w6, rfl⟩ : ∃ w6 : World, w6 = wr := ⟨_, rfl⟩
      have HROW6 := Lib.hid hrow6
      have HB6 := Lib.hid hb6
      have hc0 : Hid (CntAt (kOf ks) S L L (2 * q - 2) (fun _ => 0)) := by
        intro s
        obtain ⟨L', rfl⟩ : ∃ L', L = L' + 1 := ⟨L - 1, by omega⟩
        rw [HQ.out, restR, Nat.add_sub_cancel]
        show _ = 0 + _
        omega
      have ht0 : Hid (takeOk (kOf ks) S L (2 * q - 2)) := by
        have := htake.out
        rw [HQ.out] at this
        exact .inr this
      have hu0 : Hid (U8s (fun _ => 0) n (madeCells #[.int .u8 0] n)) := U8s.made n
      have hvr : ∃ R', L = R' + 1 ∧ Value.int .i64 ((L : Int) - 1) = .int .i64 (R' : Nat) := ⟨L - 1, by omega, congrArg (Value.int .i64) (by omega)⟩
      have hgz : g < w6.heap.size ∧ w2.heap.size ≤ g := by
        obtain ⟨g', cap', Ai, ci, hv, hg, hgl, _⟩ := hR.out.at_ (i := 0) (by rw [hvl.out]; omega)
        injection hv with e1
        injection e1 with e1
        injection e1 with e1
        omega
      have hgl := hbl.lt
      have HVR := Lib.hid hvr
      clear hrow6 hb6 HR2 bl2 hb2 hb3s hvr
      go_wp2_with fail
      go_loopw [10, 11] (fun tv rv wr => ∃ (R t : Nat) (f : Nat → Nat) (cs : Array Value), R ≤ L ∧ t ≤ 2 * q ∧ tv = .int .i64 t ∧ ((R = 0 ∧ rv = .int .i64 (-1)) ∨ (∃ R', R = R' + 1 ∧ rv = .int .i64 (R' : Nat))) ∧ Hid (takeOk (kOf ks) S R t) ∧ Hid (CntAt (kOf ks) S L R t f) ∧ Hid (U8s f n cs) ∧ Blk wr w1.heap.size 5 cs ∧ Hid (Kept (fun b => b < w6.heap.size ∧ b ≠ w1.heap.size) w6 wr)) (fun _ rv _ => (intOf rv + 1).toNat)
      case atStart => exact ⟨L, 2 * q - 2, _, _, Nat.le_refl _, by omega, congrArg (Value.int .i64) (by omega), .inr HVR.out, ht0, hc0, hu0, hbl, Kept.refl _ _⟩
      case round => as_aux_lemma =>
        clear ht0 hc0 hu0 hbl
        obtain ⟨R, t, f, cs, hRL, ht, rfl, hrv, hT, hC, hU, bl, hK⟩ := hrel
        have hks := hK.out.size
        rcases hrv with ⟨rfl, rfl⟩ | ⟨R', rfl, rfl⟩
        · go_wp2_with fail
          go_ret2
          refine lensPost_yes hE.out (f := f) ?_ hU.out bl rfl (HB6.out.trans (hK.out.below (fun b hb => ⟨by omega, by omega⟩))) (by omega)
          rw [Int.toNat_natCast, hV.out]
          refine List.map_congr_left fun s _ => ?_
          have := hC.out s
          rw [restR] at this
          omega
        · obtain ⟨g', cap', Ai, ci, hv, hg', hgl', hcell, hown⟩ := hR.out.at_ (i := R') (by rw [hvl.out]; omega)
          injection hv with e1 e2 e3
          injection e1 with e1
          injection e1 with e1
          subst e1
          have hsm := (row_small HS.out (r := R') (by omega)).2
          rw [HQ.out] at hsm
          obtain ⟨gx, rfl, hgx, hgxl, hlc, hcm, hcells⟩ := hown.cells (by omega)
          have htl : t ≤ (rowN (lv (kOf ks) S) R').length := by
            rcases hT.out with h0 | h0
            · omega
            · rwa [Nat.add_sub_cancel] at h0
          have hstep := fun s => restR_step (k := kOf ks) (S := S) R' t s htl
          have HST := Lib.hid hstep
          have HCELLS := Lib.hid hcells
          have hleaves := (row_leaves (k := kOf ks) (S := S) R' t htl).1
          obtain ⟨m, hm⟩ : ∃ m, m = (rowN (lv (kOf ks) S) R').length := ⟨_, rfl⟩
          rw [← hm] at hcell hsm hlc htl
          have HM := Lib.hid hm.symm
          have d0 : wr.cell? ⟨g, R', none⟩ = some (.slice (some ⟨gx, 0, none⟩) m ci) := (World.cell?_of_block (a := ⟨g, R', none⟩) (hK.out.block g ⟨hgz.1, by omega⟩)).trans hcell
          have p1 : ∀ w, (Instr.slice 335 (.slice (some ⟨gx, 0, none⟩) m ci) none (some (.int .i64 (t : Int))) none).run Tryz.prog w = .ok (.slice (some ⟨gx, 0, none⟩) t ci) w := by
            intro w
            rw [run_head (P := Tryz.prog) Tryz.underlying335 Tryz.sizeOf340 _ m ci .i64 (t : Int) t rfl (by omega) w]
            unfold cutA
            split
            · rfl
            · simp [add_none']
          have HN0 : Hid (InAt S f f (nl (rowN (lv (kOf ks) S) R') 0)) := by
            intro s
            rw [nl_zero]; simp
          have x0 : (0 : Int) ≤ (R' : Int) := by omega
          have x1 : (R' : Int) < (L : Int) := by omega
          clear hm hstep hcells hown hcell e2 e3 hT
          obtain ⟨wp, rfl⟩ : ∃ wp : World, wp = wr := ⟨_, rfl⟩
          go_wp2_with fail
          go_loopw [12, 86] (fun nv iv wr => ∃ (i : Nat) (f' : Nat → Nat) (cs' : Array Value), i ≤ t ∧ nv = .int .i64 (nl (rowN (lv (kOf ks) S) R') i : Nat) ∧ iv = .int .i64 i ∧ Hid (InAt S f f' (nl (rowN (lv (kOf ks) S) R') i)) ∧ Hid (U8s f' n cs') ∧ Blk wr w1.heap.size 5 cs' ∧ Hid (Kept (fun b => b < w6.heap.size ∧ b ≠ w1.heap.size) w6 wr)) (fun _ i _ => t - (intOf i).toNat)
          case atStart => exact ⟨0, f, cs, by omega, by rw [nl_zero]; rfl, rfl, HN0, hU, bl, hK⟩
          case round => as_aux_lemma =>
            clear bl hU hK HN0 d0 p1
            obtain ⟨i, f', cs', hi, rfl, rfl, hI, hU, bl, hK⟩ := hrel
            have hks2 := hK.out.size
            by_cases hlt : i < t
            · obtain ⟨x, hx⟩ : ∃ x, (rowN (lv (kOf ks) S) R')[i]? = some x := ⟨_, List.getElem?_eq_getElem (by rw [HM.out]; omega)⟩
              obtain ⟨e0, e1⟩ := HCELLS.out i x hx
              have c0 : wr.cell? ⟨gx, i * 2, none⟩ = _ := (World.cell?_of_block (a := ⟨gx, i * 2, none⟩) (hK.out.block gx ⟨hgxl, by omega⟩)).trans e0
              have c1 : wr.cell? ⟨gx, i * 2 + 1, none⟩ = _ := (World.cell?_of_block (a := ⟨gx, i * 2 + 1, none⟩) (hK.out.block gx ⟨hgxl, by omega⟩)).trans e1
              have hnl := nl_succ _ i x hx
              have hnq := (row_leaves (k := kOf ks) (S := S) R' (i + 1) (by rw [HM.out]; omega)).1
              rw [HQ.out] at hnq
              generalize rowN (lv (kOf ks) S) R' = X at *
              obtain ⟨xa, xs⟩ := x
              obtain ⟨lb, hlb⟩ : ∃ lb, lb = leafB (xa, xs) := ⟨_, rfl⟩
              rw [← hlb] at c1 hnl
              simp only at c0
              obtain ⟨N, hN'⟩ : ∃ N, N = nl X i := ⟨_, rfl⟩
              rw [← hN'] at hI hnl ⊢
              have x2 : (0 : Int) ≤ (i : Int) := by omega
              have x3 : (i : Int) < (t : Int) := by omega
              have hgw : gx < wr.heap.size := by omega
              clear hx e0 e1 hN' hlb
              cases lb
              · rw [if_neg (by simp), Nat.add_zero] at hnl
                have HNL := Lib.hid hnl
                clear hnl
                go_wp2_with fail
                go_roundw
                case rel => go_light; exact ⟨i + 1, f', cs', by omega, by rw [HNL.out]; rfl, by go_num, by rw [HNL.out]; exact hI, hU, bl.alloc _, hK.out.alloc (fun b hb => by have := hb.1; omega) _⟩
                case measure => go_light; simp [intOf]; omega
              · rw [if_pos rfl] at hnl
                have hNq : N < q := by omega
                obtain ⟨b, off, s, rfl, hbb, hs, d0⟩ := num_cell HROW6.out HQ.out hNq
                have d1 : wr.cell? ⟨b, off + N, none⟩ = _ := (World.cell?_of_block (a := ⟨b, off + N, none⟩) (hK.out.block b ⟨by omega, by omega⟩)).trans d0
                have hsn := HS.out.below s (List.mem_of_getElem? hs)
                have hbl := bl.lt
                have c2 := bl.cell s
                rw [hU.out.2 s hsn] at c2
                have f2 := bl.frozen s
                obtain ⟨hst, hfs⟩ := hI.out.step HS.out.nodup hs
                have hle := restR_le hC.out hl1 s
                have hU2 := hU.out.set (g := fun j => if j = s then f' s + 1 else f' j) (i := s) (v := f' s + 1) (by simp) (fun j hj => by simp [hj])
                have hfb : f' s ≤ 15 := by omega
                have HNL := Lib.hid hnl
                have HST := Lib.hid hst
                have HU2 := Lib.hid hU2
                obtain ⟨fs, hfs'⟩ : ∃ fs, fs = f' s := ⟨_, rfl⟩
                rw [← hfs'] at c2 hfb
                have HFS := Lib.hid hfs'
                have s1 : IntKind.u8.wrap ((fs : Int) + 1) = (fs : Int) + 1 := by rw [IntKind.wrap_u8]; omega
                have y0 : (0 : Int) ≤ (N : Int) := by omega
                have y1 : (N : Int) < (q : Int) := by omega
                have y2 : (0 : Int) ≤ (s : Int) := by omega
                have y3 : (s : Int) < (n : Int) := by omega
                have hbw : b < wr.heap.size := by omega
                clear hnl hst hU2 hfs hle hfs' hs d0
                go_wp2_with fail
                go_roundw
                case rel =>
                  go_light
                  refine ⟨i + 1, _, cs'.setIfInBounds s (.int .u8 ((f' s + 1 : Nat) : Int)), by omega, by rw [HNL.out]; go_num, by go_num, by rw [HNL.out]; exact HST, HU2, ?_, ?_⟩
                  · rw [← HFS.out]
                    exact (bl.set s _).alloc _
                  · exact (hK.out.set (p := ⟨w1.heap.size, s, none⟩) (fun hb => hb.2 rfl) _).alloc (fun b hb => by have := hb.1; simp; omega) _
                case measure => go_light; simp [intOf]; omega
            · obtain rfl : i = t := by omega
              have hE2 : Hid (∀ s, f s + restR (kOf ks) S (R' + 1) i s = f' s + restR (kOf ks) S R' (2 * (i - nl (rowN (lv (kOf ks) S) R') i)) s) := by
                intro s
                have h1 := (HST.out s).1
                have h2 := hI.out s
                omega
              have hT2 := (HST.out 0).2
              have hnle := nl_le (rowN (lv (kOf ks) S) R') i
              have hpl := pairs_le HS.out (R := R') (t := i) (by omega) (by rw [HM.out]; omega)
              rw [HQ.out] at hpl
              generalize nl (rowN (lv (kOf ks) S) R') i = N at *
              have HT2 := Lib.hid hT2
              have HC2 : Hid (CntAt (kOf ks) S L R' (2 * (i - N)) f') := by
                intro s
                rw [hC.out s, hE2.out s]
              have hrr : (R' = 0 ∧ Value.int .i64 ((R' : Int) - 1) = .int .i64 (-1)) ∨ (∃ R2, R' = R2 + 1 ∧ Value.int .i64 ((R' : Int) - 1) = .int .i64 (R2 : Nat)) := by
                rcases R' with _ | R2
                · exact .inl ⟨rfl, rfl⟩
                · exact .inr ⟨R2, rfl, congrArg (Value.int .i64) (by omega)⟩
              have HRR := Lib.hid hrr
              clear hT2 hrr hC hI HST hE2
              go_wp2_with fail
              go_roundw
              case rel => go_light; exact ⟨R', 2 * (i - N), f', cs', by omega, by omega, congrArg (Value.int .i64) (by omega), HRR.out, HT2, HC2, hU, bl, hK⟩
              case measure => go_light; simp [intOf]
theorem lens_new (w : World) (A : Option Addr) (n c : Nat) (ks : List Nat) (limit : Int) (hn : ks.length = n) (hN : n ≤ 9223372036854775807) (hl1 : -9223372036854775808 ≤ limit) (hl2 : limit ≤ 9223372036854775807) (h32 : ∀ x ∈ ks, x < 4294967296) (ha : Row w w.heap.size A n 1 (numF .u32 ks)) :
    Calls Tryz.prog 230 #[.slice A n c, .int .i64 limit] w (LensPostN ks limit w) := by
  by_cases h : n > 300 ∨ limit < 1 ∨ limit > 15
  · exact lens_bad w A n c ks limit hn hN hl1 hl2 h
  · obtain ⟨L, rfl⟩ : ∃ L : Nat, limit = L := ⟨limit.toNat, by omega⟩
    by_cases h1 : 2 ^ L < (order (kOf ks) n).length
    · exact lens_limit w A n c L ks hn (by omega) (by omega) (by omega) h1 ha
    · by_cases h2 : (order (kOf ks) n).length < 2
      · exact lens_few w A n c L ks hn (by omega) (by omega) (by omega) h2 ha
      · exact lens_many w A n c L ks hn (by omega) (by omega) (by omega) (by omega) (by omega) h32 ha
end Go.Proofs.YtcafklmbehoggaaGreatDoor.Lens

/-
  The walks of package lens' leaves and next: rows of items.
  The walk of lens.Lens.
-/
import Derived.Test.YtidclmmnfienlaaGreatDoorLensUsed

namespace Go.Proofs.YtidclmmnfienlaaGreatDoor.Lens
open Go.RowKit Go.Proofs.YtidclmmnfienlaaGreatDoor.Mem Go.Proofs.YtidclmmnfienlaaGreatDoor.Own Go.Proofs.YtidclmmnfienlaaGreatDoor.Srt Go.Proofs.YtidclmmnfienlaaGreatDoor.Canon

/-- The cells of items. -/
def itL (X : List It) : List Value := X.flatMap fun x => [.int .u64 (x.1 : Nat), .bool (leafB x)]
def itF (X : List It) : Nat → Nat → Value := fun i j => if j = 0 then .int .u64 ((X.getD i (0, [])).1 : Nat) else .bool (leafB (X.getD i (0, [])))
theorem itL_append (a b : List It) : itL (a ++ b) = itL a ++ itL b := by simp [itL]
theorem itL_length (X : List It) : (itL X).length = X.length * 2 := by
  induction X with
  | nil => rfl
  | cons x t ih => simp only [itL, List.flatMap_cons, List.length_append, List.length_cons, List.length_nil] at ih ⊢; omega
theorem itL_one (X : List It) : ∀ u ∈ itL X, u.oneCell' = true := by
  intro u hu
  obtain ⟨r, _, hr⟩ := List.mem_flatMap.1 hu
  simp only [List.mem_cons, List.not_mem_nil, or_false] at hr
  rcases hr with rfl | rfl <;> rfl
theorem itL_get : ∀ (X : List It) (i j : Nat), i < X.length → j < 2 → (itL X)[i * 2 + j]? = some (itF X i j)
  | [], i, j, h, _ => by simp at h
  | x :: t, 0, j, _, hj => by
    have : j = 0 ∨ j = 1 := by omega
    rcases this with rfl | rfl <;> simp [itL, itF]
  | x :: t, i + 1, j, h, hj => by
    have := itL_get t i j (by simpa using h) hj
    rw [itL, List.flatMap_cons, show (i + 1) * 2 + j = (i * 2 + j) + 2 by omega, List.getElem?_append_right (by simp)]
    simpa [itF, itL] using this

/-- As far as t the cells are these items'. -/
def Its (X : List It) (t : Nat) (cs : Array Value) : Prop := cs.size = X.length * 2 ∧ ∀ i j, i < t → j < 2 → cs[i * 2 + j]? = some (itF X i j)
theorem Its.put {X : List It} {t : Nat} {cs : Array Value} (h : Its X t cs) (ht : t < X.length) {a b : Value} (ha : a = itF X t 0) (hb : b = itF X t 1) : Its X (t + 1) ((cs.setIfInBounds (t * 2) a).setIfInBounds (t * 2 + 1) b) := by
  refine ⟨by simpa using h.1, fun i j hi hj => ?_⟩
  have hs := h.1
  rw [Array.getElem?_setIfInBounds, Array.getElem?_setIfInBounds]
  by_cases e1 : t * 2 + 1 = i * 2 + j
  · have : i = t := by omega
    have hj1 : j = 1 := by omega
    subst this hj1
    rw [if_pos rfl, if_pos (by simp; omega), hb]
  · rw [if_neg e1]
    by_cases e2 : t * 2 = i * 2 + j
    · have : i = t := by omega
      have hj1 : j = 0 := by omega
      subst this hj1
      rw [if_pos (by omega), if_pos (by omega), ha]
    · rw [if_neg e2]
      exact h.2 i j (by omega) hj

theorem info_item : (Tryz.prog.info? 226).map (fun i => (i.zero, i.size, i.bytes)) = some (some (.agg #[.int .u64 0, .bool false]), 2, 16) := by kernel_rfl
theorem make_item (n : Nat) (hn : n ≤ 100000) (w : World) : (Instr.makeSlice 221 (.int .i64 (n : Int)) (.int .i64 (n : Int))).run Tryz.prog w =
    .ok (.slice (some ⟨w.heap.size, 0, none⟩) n n) (w.alloc (.cells (madeCells #[.int .u64 0, .bool false] (n * 2)) 226)) := by
  obtain ⟨i0, hi, hz0, hz1, hz2⟩ := info_parts info_item
  have h := run_make (P := Tryz.prog) w 221 226 i0 (.agg #[.int .u64 0, .bool false]) Tryz.underlying221 hi hz0 .i64 .i64 (n : Int) (n : Int) (by omega) (Int.le_refl _) (by rw [hz2]; omega) (by omega)
  simp only [Int.toNat_natCast] at h
  simpa [hz1, Value.cells] using h

/-- A row of items that a call made. -/
def OwnIt (w : World) (base : Nat) (v : Value) (X : List It) : Prop := w.ownsRow base 226 2 v X.length (itL X)
theorem OwnIt.row {w : World} {base c : Nat} {A : Option Addr} {X : List It} (h : OwnIt w base (.slice A X.length c) X) : Row w w.heap.size A X.length 2 (itF X) := Row.of_own h rfl fun i j hi hj => itL_get X i j hi hj
theorem OwnIt.shape {w : World} {base : Nat} {v : Value} {X : List It} (h : OwnIt w base v X) : ∃ A c, v = .slice A X.length c := own_shape h
def ItPost (X : List It) (w : World) (e : Ending) (w' : World) : Prop := ∃ v, e = .returned v ∧ OwnIt w' w.heap.size v X ∧ Below w.heap.size w w'

set_option maxHeartbeats 1000000 in
set_option maxRecDepth 100000 in
theorem leaves_any (w : World) (A B : Option Addr) (n c m d : Nat) (ks S : List Nat) (hn : ks.length = n) (hm : S.length = m) (hN : n ≤ 100000) (hM : m ≤ n) (hS : ∀ s ∈ S, s < n) (h32 : ∀ x ∈ ks, x < 4294967296) (ha : Row w w.heap.size A n 1 (numF .u32 ks)) (hb : Row w w.heap.size B m 1 (numF .i64 S)) :
    Calls Tryz.prog 155 #[.slice A n c, .slice B m d] w (ItPost (lv (kOf ks) S) w) := by
  have HN := Lib.hid hn
  have HM := Lib.hid hm
  have HA := Lib.hid ha
  have HB := Lib.hid hb
  have HS := Lib.hid hS
  have H32 := Lib.hid h32
  have hmk := make_item m (by omega)
  clear hn hm ha hb hS h32
  go_enter Tryz.func155, Tryz.ntmps155
  go_wp2_with fail
  have bl0 : Blk (w.alloc (.cells (madeCells #[.int .u64 0, .bool false] (m * 2)) 226)) w.heap.size 226 _ := Blk.made _ _ _
  have bel0 : Below w.heap.size w (w.alloc (.cells (madeCells #[.int .u64 0, .bool false] (m * 2)) 226)) := bel_alloc0 (Below.refl _ _)
  have hI : Hid (Its (lv (kOf ks) S) 0 (madeCells #[.int .u64 0, .bool false] (m * 2))) := by
    refine ⟨?_, fun i j hi _ => by omega⟩
    rw [lv_length, HM.out]
    simp [madeCells]
  go_loopw [13] (fun i wr => ∃ (t : Nat) (cs : Array Value), t ≤ m ∧ i = .int .i64 t ∧ Hid (Its (lv (kOf ks) S) t cs) ∧ Blk wr w.heap.size 226 cs ∧ Below w.heap.size w wr) (fun i _ => m - (intOf i).toNat)
  case atStart => exact ⟨0, _, by omega, rfl, hI, bl0, bel0⟩
  case round =>
    clear bl0 bel0 hI
    obtain ⟨t, cs, ht, rfl, hI, bl, bel⟩ := hrel
    by_cases hlt : t < m
    · obtain ⟨b, off, s, rfl, hbb, hs, c0⟩ := num_cell (HB.out.below bel) HM.out hlt
      obtain ⟨b', off', x, rfl, hbb', hx, c1⟩ := num_cell (HA.out.below bel) HN.out (HS.out s (List.mem_of_getElem? hs))
      have hsn := HS.out s (List.mem_of_getElem? hs)
      have x0 : (0 : Int) ≤ (t : Int) := by omega
      have x1 : (t : Int) < (m : Int) := by omega
      have x2 : (0 : Int) ≤ (s : Int) := by omega
      have x3 : (s : Int) < (n : Int) := by omega
      have f0 := bl.frozen (t * 2)
      have f1 := bl.frozen (t * 2 + 1)
      have hsz : cs.size = m * 2 := by have := hI.out.1; rwa [lv_length, HM.out] at this
      have d0 := bl.cell (t * 2)
      have d1 := bl.cell (t * 2 + 1)
      rw [Array.getElem?_eq_getElem (by omega)] at d0 d1
      generalize cs[t * 2]'(by omega) = o0 at d0
      generalize cs[t * 2 + 1]'(by omega) = o1 at d1
      have h32 := H32.out x (List.mem_of_getElem? hx)
      have s1 : IntKind.u64.wrap (x : Int) = (x : Int) := by rw [IntKind.wrap_u64]; omega
      have hnx : Its (lv (kOf ks) S) (t + 1) ((cs.setIfInBounds (t * 2) (.int .u64 (x : Nat))).setIfInBounds (t * 2 + 1) (.bool true)) := by
        have hg : (lv (kOf ks) S).getD t (0, []) = (x, [s]) := by
          rw [List.getD_eq_getElem?_getD, lv, List.getElem?_map, hs]
          simp [kOf, List.getD_eq_getElem?_getD, hx]
        refine hI.out.put (by rw [lv_length, HM.out]; exact hlt) ?_ ?_
        · unfold itF; rw [if_pos rfl, hg]
        · unfold itF; rw [if_neg (by omega), hg]; rfl
      have HNX := Lib.hid hnx
      clear hsz hnx hs hx
      go_wp2_with fail
      go_roundw
      case rel => go_light; exact ⟨t + 1, _, by omega, by go_num, HNX, (bl.set _ _).set _ _, bel_set (p := ⟨w.heap.size, t * 2 + 1, none⟩) (Nat.le_refl _) (bel_set (p := ⟨w.heap.size, t * 2, none⟩) (Nat.le_refl _) bel)⟩
      case measure => go_light; simp [intOf]; omega
    · obtain rfl : t = m := by omega
      go_wp2_with fail
      go_ret
      refine ⟨_, rfl, ?_, bel⟩
      have e : (lv (kOf ks) S).length = t := by rw [lv_length, HM.out]
      refine ⟨?_, .inr ⟨w.heap.size, t, cs, by rw [e]; rfl, Nat.le_refl _, bl, by rw [e]; exact Nat.le_refl _, by unfold maxLen; omega, by rw [hI.out.1, e], ?_⟩⟩
      · rw [itL_length]
      · have hs := hI.out.1
        rw [e] at hs
        refine List.ext_getElem? fun i => ?_
        rw [List.getElem?_take]
        by_cases hi : i < (lv (kOf ks) S).length * 2
        · rw [if_pos hi]
          have h1 := hI.out.2 (i / 2) (i % 2) (by rw [e] at hi; omega) (by omega)
          have h2 := itL_get (lv (kOf ks) S) (i / 2) (i % 2) (by omega) (by omega)
          rw [show i / 2 * 2 + i % 2 = i by omega] at h1 h2
          rw [Array.getElem?_toList, h1, h2]
        · rw [if_neg hi, List.getElem?_eq_none]
          rw [itL_length]; omega

theorem row_it {w : World} {B n : Nat} {A : Option Addr} {X : List It} (h : Row w B A n 2 (itF X)) (hn : X.length = n) {k : Nat} (hk : k < n) :
    ∃ b off x, A = some ⟨b, off, none⟩ ∧ b < B ∧ X[k]? = some x ∧ w.cell? ⟨b, off + k * 2, none⟩ = some (.int .u64 (x.1 : Nat)) ∧ w.cell? ⟨b, off + k * 2 + 1, none⟩ = some (.bool (leafB x)) := by
  obtain ⟨b, off, e, hb, hc⟩ := h (by omega)
  have hl : k < X.length := by omega
  have h0 := hc k 0 hk (by omega)
  have h1 := hc k 1 hk (by omega)
  have hg : X.getD k (0, []) = X[k] := by rw [List.getD_eq_getElem?_getD, List.getElem?_eq_getElem hl]; rfl
  rw [itF, if_pos rfl, hg] at h0
  rw [itF, if_neg (by omega), hg] at h1
  exact ⟨b, off, X[k], e, hb, List.getElem?_eq_getElem hl, h0, h1⟩

/-- How far a row is merged. -/
def MAt (X Y : List It) (i k : Nat) (done : List It) : Prop := done ++ mrg (X.drop i) (pairs (Y.drop k)) = mrg X (pairs Y)
theorem MAt.len {X Y : List It} {i k : Nat} {done : List It} (h : MAt X Y i k done) : done.length ≤ X.length + Y.length := by
  have := congrArg List.length h
  rw [List.length_append, mrg_length, mrg_length, pairs_length, pairs_length] at this
  omega
theorem drop_at {α : Type} {l : List α} {i : Nat} {x : α} (h : l[i]? = some x) : l.drop i = x :: l.drop (i + 1) := by
  obtain ⟨hi, rfl⟩ := List.getElem?_eq_some_iff.1 h
  exact List.drop_eq_getElem_cons hi
theorem MAt.leaf {X Y : List It} {i k : Nat} {done : List It} {x : It} (h : MAt X Y i k done) (hx : X[i]? = some x) (hc : Y.length ≤ k + 1 ∨ ∃ y z, Y[k]? = some y ∧ Y[k + 1]? = some z ∧ x.1 ≤ y.1 + z.1) : MAt X Y (i + 1) k (done ++ [x]) := by
  unfold MAt at h ⊢
  rw [← h, drop_at hx, List.append_assoc]
  congr 1
  rcases hc with hc | ⟨y, z, hy, hz, hle⟩
  · rw [pairs_few (l := Y.drop k) (by rw [List.length_drop]; omega), mrg_right, mrg_right]; rfl
  · rw [drop_at hy, drop_at hz, pairs_two, mrg_le (by exact hle)]; rfl
theorem MAt.pair {X Y : List It} {i k : Nat} {done : List It} {y z : It} (h : MAt X Y i k done) (hy : Y[k]? = some y) (hz : Y[k + 1]? = some z) (hc : X.length ≤ i ∨ ∃ x, X[i]? = some x ∧ ¬ x.1 ≤ y.1 + z.1) : MAt X Y i (k + 2) (done ++ [(y.1 + z.1, y.2 ++ z.2)]) := by
  unfold MAt at h ⊢
  rw [← h, drop_at hy, drop_at hz, pairs_two, List.append_assoc]
  congr 1
  rcases hc with hc | ⟨x, hx, hgt⟩
  · rw [List.drop_of_length_le hc, mrg_left, mrg_left]; rfl
  · rw [drop_at hx, mrg_gt (by exact hgt)]; rfl
theorem MAt.done {X Y : List It} {i k : Nat} {done : List It} (h : MAt X Y i k done) (hi : X.length ≤ i) (hk : Y.length ≤ k + 1) : done = mrg X (pairs Y) := by
  unfold MAt at h
  rw [List.drop_of_length_le hi, mrg_left, pairs_few (by rw [List.length_drop]; omega), List.append_nil] at h
  exact h
theorem leaf_pair {y z : It} (hy : y.2 ≠ []) (hz : z.2 ≠ []) : leafB (y.1 + z.1, y.2 ++ z.2) = false := by
  have h1 := List.length_pos_iff.2 hy
  have h2 := List.length_pos_iff.2 hz
  unfold leafB
  rw [beq_eq_false_iff_ne, List.length_append]
  omega

set_option maxHeartbeats 1000000 in
set_option maxRecDepth 100000 in
theorem next_any (w : World) (A B : Option Addr) (n c m d M : Nat) (X Y : List It) (hn : X.length = n) (hm : Y.length = m) (hN : n ≤ 1000) (hM : m ≤ 1000) (hX : ∀ x ∈ X, leafB x = true) (hY : ∀ y ∈ Y, y.2 ≠ [] ∧ y.1 ≤ M) (hM2 : 2 * M < 18446744073709551616) (ha : Row w w.heap.size A n 2 (itF X)) (hb : Row w w.heap.size B m 2 (itF Y)) :
    Calls Tryz.prog 156 #[.slice A n c, .slice B m d] w (ItPost (mrg X (pairs Y)) w) := by
  have HN := Lib.hid hn
  have HM := Lib.hid hm
  have HA := Lib.hid ha
  have HB := Lib.hid hb
  have HX := Lib.hid hX
  have HY := Lib.hid hY
  obtain ⟨j0, hj0, hy0, hy1, hy2⟩ := info_parts info_item
  obtain ⟨h2, hh2⟩ : ∃ h2, h2 = m / 2 := ⟨_, rfl⟩
  have hmk : ∀ w, (Instr.makeSlice 221 (.int .i64 (0 : Int)) (.int .i64 ((n : Int) + (m : Int) / 2))).run Tryz.prog w =
      .ok (.slice (some ⟨w.heap.size, 0, none⟩) 0 (n + h2)) (w.alloc (.cells (madeCells #[.int .u64 0, .bool false] ((n + h2) * 2)) 226)) := by
    intro w
    have h := run_make (P := Tryz.prog) w 221 226 j0 (.agg #[.int .u64 0, .bool false]) Tryz.underlying221 hj0 hy0 .i64 .i64 0 ((n : Int) + (m : Int) / 2) (by omega) (by omega) (by rw [hy2]; omega) (by omega)
    rw [show ((n : Int) + (m : Int) / 2).toNat = n + h2 by omega] at h
    simpa [hy1, Value.cells] using h
  have hh3 : h2 ≤ m := by omega
  clear hn hm ha hb hX hY hh2
  go_enter Tryz.func156, Tryz.ntmps156
  go_wp2_with fail
  have hown0 : (w.alloc (.cells (madeCells #[.int .u64 0, .bool false] ((n + h2) * 2)) 226)).ownsRow w.heap.size 226 2 (.slice (some ⟨w.heap.size, 0, none⟩) 0 (n + h2)) 0 (itL []) := World.ownsRow_made w _ _ (Nat.le_refl _) (by unfold maxLen; omega) (size_madeCells _ _)
  have bel0 : Below w.heap.size w (w.alloc (.cells (madeCells #[.int .u64 0, .bool false] ((n + h2) * 2)) 226)) := bel_alloc0 (Below.refl _ _)
  go_loopw [5, 6, 7] (fun v iv kv wr => ∃ (i k q : Nat) (done : List It), i ≤ n ∧ k ≤ m ∧ q ≤ 2001 ∧ iv = .int .i64 i ∧ kv = .int .i64 k ∧ Hid (done.length = q) ∧ wr.ownsRow w.heap.size 226 2 v q (itL done) ∧ Hid (MAt X Y i k done) ∧ Below w.heap.size w wr) (fun _ i k _ => (n - (intOf i).toNat) + (m - (intOf k).toNat))
  case atStart => exact ⟨0, 0, 0, [], by omega, by omega, by omega, rfl, rfl, rfl, hown0, rfl, bel0⟩
  case round =>
    clear bel0 hown0 hmk
    obtain ⟨i, k, q, done, hi, hk, hq, rfl, rfl, hql, hown, hat, bel⟩ := hrel
    have hbs := bel.size
    have hq2 : q ≤ n + m := by have := hat.out.len; rw [hql.out, HN.out, HM.out] at this; exact this
    obtain ⟨va, vc, rfl⟩ := own_shape hown
    have hr : Hid (∀ k, (Value.slice va q vc).ownBlock = some k → w.heap.size ≤ k) := fun k hk => (World.ownsRow.lt hown k hk).1
    have x0 : (0 : Int) ≤ (i : Int) := by omega
    have z0 : (0 : Int) ≤ (k : Int) := by omega
    by_cases hk1 : k + 1 < m
    · obtain ⟨b, off, y, rfl, hbb, hy, c0, _⟩ := row_it (HB.out.below bel) HM.out (k := k) (by omega)
      obtain ⟨b', off', z, e2, hbb', hz, c1, _⟩ := row_it (HB.out.below bel) HM.out (k := k + 1) (by omega)
      injection e2 with e2
      injection e2 with e3 e4
      subst e3 e4
      have hyw := HY.out y (List.mem_of_getElem? hy)
      have hzw := HY.out z (List.mem_of_getElem? hz)
      have hlf := leaf_pair hyw.1 hzw.1
      have hpair := hat.out.pair hy hz
      have hleaf := fun x hx hle => hat.out.leaf (x := x) hx (.inr ⟨y, z, hy, hz, hle⟩)
      have hy1' := hyw.2
      have hz1' := hzw.2
      obtain ⟨ya, ys⟩ := y
      obtain ⟨za, zs⟩ := z
      simp only at c0 c1 hlf hpair hleaf hy1' hz1'
      obtain ⟨ww, hww⟩ : ∃ ww, ww = ya + za := ⟨_, rfl⟩
      rw [← hww] at hlf hpair hleaf
      have HPAIR := Lib.hid hpair
      have HLEAF := Lib.hid hleaf
      have HLF := Lib.hid hlf
      have E : Hid ((ya : Int) + (za : Int) = (ww : Int)) := by show _ = _; omega
      have s3 : IntKind.u64.wrap ((ya : Int) + (za : Int)) = (ya : Int) + (za : Int) := by rw [IntKind.wrap_u64]; omega
      have s1 : IntKind.i64.wrap ((k : Int) + 1) = (k : Int) + 1 := IntWalk.i64_in _ (by omega)
      have z1 : (k : Int) < (m : Int) := by omega
      have z2 : (0 : Int) ≤ (k : Int) + 1 := by omega
      have z3 : (k : Int) + 1 < (m : Int) := by omega
      have z5 : ((k : Int) + 1).toNat = k + 1 := by omega
      have S135 : Hid (((k : Int) + 1).toNat = k + 1 ∧ IntKind.i64.wrap ((k : Int) + 1) = (k : Int) + 1 ∧ IntKind.u64.wrap ((ya : Int) + (za : Int)) = (ya : Int) + (za : Int)) := ⟨z5, s1, s3⟩
      have HO := Lib.hid hown
      have BEL := Lib.hid bel
      clear hy hz hyw hzw hlf hpair hleaf hww s1 s3 z5 hown bel
      by_cases hin : i < n
      · obtain ⟨b2, off2, x, rfl, hbb2, hx, d0, d1⟩ := row_it (HA.out.below BEL.out) HN.out hin
        obtain ⟨xa, xs⟩ := x
        simp only at d0
        have x1 : (i : Int) < (n : Int) := by omega
        have HXX := Lib.hid hx
        obtain ⟨lb, hlb⟩ : ∃ lb, lb = leafB (xa, xs) := ⟨_, rfl⟩
        rw [← hlb] at d1
        have HLB := Lib.hid hlb
        clear hx hlb
        by_cases hle : xa ≤ ww
        · go_wp2_with fail
          obtain ⟨z5, s1, s3⟩ := S135.out
          go_quiet (fail)
          clear z5 s1 s3
          rw [E.out]
          have hown2 : (wr.drewN nq).ownsRow w.heap.size 226 2 (.slice va q vc) q (itL done) := own_kept HO.out (fun _ _ => rfl)
          have bel2 : Below w.heap.size w (wr.drewN nq) := below_drewN BEL.out nq
          have d0' : (wr.drewN nq).cell? ⟨b2, off2 + i * 2, none⟩ = some (.int .u64 (xa : Nat)) := d0
          have d1' : (wr.drewN nq).cell? ⟨b2, off2 + i * 2 + 1, none⟩ = some (.bool lb) := d1
          have hbs2 : w.heap.size ≤ (wr.drewN nq).heap.size := hbs
          generalize wr.drewN nq = wq at *
          have HO2 := Lib.hid hown2
          have BEL2 := Lib.hid bel2
          clear hown2 bel2 d0 d1 c0 c1 HO BEL
          go_wp2_with (at_builtin; refine wpList_app rfl (.tmp 66) (.tmp 71) 221 rfl w.heap.size 226 j0 _ 2 16 Tryz.underlying221 hj0 hy0 hy1 hy2 rfl (by decide) _ _ _ (by rfl) (HO2.out.alloc _) _ 1 1 [.int .u64 (xa : Nat), .bool lb] (by rfl) (Src.of_blk (Blk.made _ _ _) 1 1 2 rfl) (by intro u hu; simp at hu; rcases hu with rfl | rfl <;> rfl) (by unfold maxLen; omega) (by omega) (by simp; omega) ?_; intro v4 w4 hown4 hg4 hat4)
          go_roundw
          case measure => go_light; simp [intOf]; omega
          case rel =>
            go_light
            refine ⟨i + 1, k, q + 1, done ++ [(xa, xs)], by omega, by omega, by omega, by go_num, rfl, ?_, ?_, HLEAF.out _ HXX.out hle, (bel_alloc hbs2 BEL2.out).grown hg4 (by simp; omega) (fun k hk => hr.out k hk)⟩
            · show _ = _; rw [List.length_append, hql.out]; rfl
            · rw [itL_append]; rw [HLB.out] at hown4; exact hown4
        · have hlt2 : ww < xa := by omega
          go_wp2_with fail
          obtain ⟨z5, s1, s3⟩ := S135.out
          go_quiet (fail)
          clear z5 s1 s3
          rw [E.out]
          have hown2 : (wr.drewN nq).ownsRow w.heap.size 226 2 (.slice va q vc) q (itL done) := own_kept HO.out (fun _ _ => rfl)
          have bel2 : Below w.heap.size w (wr.drewN nq) := below_drewN BEL.out nq
          have hbs2 : w.heap.size ≤ (wr.drewN nq).heap.size := hbs
          have d0' : (wr.drewN nq).cell? ⟨b2, off2 + i * 2, none⟩ = some (.int .u64 (xa : Nat)) := d0
          clear d0 d1
          generalize wr.drewN nq = wq at *
          have HO2 := Lib.hid hown2
          have BEL2 := Lib.hid bel2
          clear hown2 bel2 c0 c1 HO BEL
          go_wp2_with (at_builtin; refine wpList_app rfl (.tmp 75) (.tmp 78) 221 rfl w.heap.size 226 j0 _ 2 16 Tryz.underlying221 hj0 hy0 hy1 hy2 rfl (by decide) _ _ _ (by rfl) (HO2.out.alloc _) _ 1 1 [.int .u64 (ww : Nat), .bool false] (by rfl) (Src.of_blk (Blk.made _ _ _) 1 1 2 rfl) (by intro u hu; simp at hu; rcases hu with rfl | rfl <;> rfl) (by unfold maxLen; omega) (by omega) (by simp; omega) ?_; intro v4 w4 hown4 hg4 hat4)
          go_roundw
          case measure => go_light; simp [intOf]; omega
          case rel =>
            go_light
            refine ⟨i, k + 2, q + 1, done ++ [(ww, ys ++ zs)], by omega, by omega, by omega, rfl, by go_num, ?_, ?_, HPAIR.out (.inr ⟨_, HXX.out, by omega⟩), (bel_alloc hbs2 BEL2.out).grown hg4 (by simp; omega) (fun k hk => hr.out k hk)⟩
            · show _ = _; rw [List.length_append, hql.out]; rfl
            · rw [itL_append]; rw [← HLF.out] at hown4; exact hown4
      · go_wp2_with fail
        obtain ⟨z5, s1, s3⟩ := S135.out
        go_quiet (fail)
        clear z5 s1 s3
        rw [E.out]
        have hown2 : (wr.drewN nq).ownsRow w.heap.size 226 2 (.slice va q vc) q (itL done) := own_kept HO.out (fun _ _ => rfl)
        have bel2 : Below w.heap.size w (wr.drewN nq) := below_drewN BEL.out nq
        have hbs2 : w.heap.size ≤ (wr.drewN nq).heap.size := hbs
        generalize wr.drewN nq = wq at *
        have HO2 := Lib.hid hown2
        have BEL2 := Lib.hid bel2
        clear hown2 bel2 c0 c1 HO BEL
        go_wp2_with (at_builtin; refine wpList_app rfl (.tmp 75) (.tmp 78) 221 rfl w.heap.size 226 j0 _ 2 16 Tryz.underlying221 hj0 hy0 hy1 hy2 rfl (by decide) _ _ _ (by rfl) (HO2.out.alloc _) _ 1 1 [.int .u64 (ww : Nat), .bool false] (by rfl) (Src.of_blk (Blk.made _ _ _) 1 1 2 rfl) (by intro u hu; simp at hu; rcases hu with rfl | rfl <;> rfl) (by unfold maxLen; omega) (by omega) (by simp; omega) ?_; intro v4 w4 hown4 hg4 hat4)
        go_roundw
        case measure => go_light; simp [intOf]; omega
        case rel =>
          go_light
          refine ⟨i, k + 2, q + 1, done ++ [(ww, ys ++ zs)], by omega, by omega, by omega, rfl, by go_num, ?_, ?_, HPAIR.out (.inl (by rw [HN.out]; omega)), (bel_alloc hbs2 BEL2.out).grown hg4 (by simp; omega) (fun k hk => hr.out k hk)⟩
          · show _ = _; rw [List.length_append, hql.out]; rfl
          · rw [itL_append]; rw [← HLF.out] at hown4; exact hown4
    · have hk2 : m ≤ k + 1 := by omega
      by_cases hin : i < n
      · obtain ⟨b2, off2, x, rfl, hbb2, hx, d0, d1⟩ := row_it (HA.out.below bel) HN.out hin
        obtain ⟨xa, xs⟩ := x
        simp only at d0
        have x1 : (i : Int) < (n : Int) := by omega
        have HXX := Lib.hid hx
        obtain ⟨lb, hlb⟩ : ∃ lb, lb = leafB (xa, xs) := ⟨_, rfl⟩
        rw [← hlb] at d1
        have HLB := Lib.hid hlb
        have HLEAF := Lib.hid (hat.out.leaf (x := (xa, xs)) hx (.inl (by rw [HM.out]; exact hk2)))
        have HO2 := Lib.hid hown
        have BEL2 := Lib.hid bel
        have hbs2 := hbs
        clear hx hlb hown bel
        go_wp2_with (at_builtin; refine wpList_app rfl (.tmp 32) (.tmp 37) 221 rfl w.heap.size 226 j0 _ 2 16 Tryz.underlying221 hj0 hy0 hy1 hy2 rfl (by decide) _ _ _ (by rfl) (HO2.out.alloc _) _ 1 1 [.int .u64 (xa : Nat), .bool lb] (by rfl) (Src.of_blk (Blk.made _ _ _) 1 1 2 rfl) (by intro u hu; simp at hu; rcases hu with rfl | rfl <;> rfl) (by unfold maxLen; omega) (by omega) (by simp; omega) ?_; intro v4 w4 hown4 hg4 hat4)
        go_roundw
        case measure => go_light; simp [intOf]; omega
        case rel =>
          go_light
          refine ⟨i + 1, k, q + 1, done ++ [(xa, xs)], by omega, by omega, by omega, by go_num, rfl, ?_, ?_, HLEAF.out, (bel_alloc hbs2 BEL2.out).grown hg4 (by simp; omega) (fun k hk => hr.out k hk)⟩
          · show _ = _; rw [List.length_append, hql.out]; rfl
          · rw [itL_append]; rw [HLB.out] at hown4; exact hown4
      · have hdone := hat.out.done (by rw [HN.out]; omega) (by rw [HM.out]; exact hk2)
        have hlen : (mrg X (pairs Y)).length = q := by rw [← hdone]; exact hql.out
        have HD := Lib.hid hdone
        have HLN := Lib.hid hlen
        clear hdone hlen
        go_wp2_with fail
        go_ret
        refine ⟨_, rfl, ?_, bel⟩
        show World.ownsRow _ _ _ _ _ _ _
        rw [HLN.out, ← HD.out]
        exact hown
end Go.Proofs.YtidclmmnfienlaaGreatDoor.Lens

namespace Go.Proofs.YtidclmmnfienlaaGreatDoor.Lens
open Go.RowKit Go.Proofs.YtidclmmnfienlaaGreatDoor.Mem Go.Proofs.YtidclmmnfienlaaGreatDoor.Own Go.Proofs.YtidclmmnfienlaaGreatDoor.Srt Go.Proofs.YtidclmmnfienlaaGreatDoor.Canon

def LensPost (ks : List Nat) (limit : Int) (w : World) (e : Ending) (w' : World) : Prop :=
  ∃ A c, e = .returned (.tuple #[.slice A (lensO ks limit).length c, .int .i64 (lensE ks limit)]) ∧ Row w' w'.heap.size A (lensO ks limit).length 1 (numF .u8 (lensO ks limit)) ∧ Wf A (lensO ks limit).length c ∧ Below w.heap.size w w'
/-- What is handed back lies in a new block. -/
def LensPostN (ks : List Nat) (limit : Int) (w : World) (e : Ending) (w' : World) : Prop :=
  ∃ A c, e = .returned (.tuple #[.slice A (lensO ks limit).length c, .int .i64 (lensE ks limit)]) ∧ Row w' w'.heap.size A (lensO ks limit).length 1 (numF .u8 (lensO ks limit)) ∧ Wf A (lensO ks limit).length c ∧ Below w.heap.size w w' ∧ (0 < (lensO ks limit).length → ∀ p, A = some p → w.heap.size ≤ p.block)
theorem LensPostN.post {ks : List Nat} {limit : Int} {w w' : World} {e : Ending} (h : LensPostN ks limit w e w') : LensPost ks limit w e w' := by
  obtain ⟨A, c, h1, h2, h3, h4, _⟩ := h
  exact ⟨A, c, h1, h2, h3, h4⟩
theorem lensPost_no {ks : List Nat} {limit : Int} {w w' : World} {e : Ending} {x : Int} (hx : x ≠ 0) (h : lensE ks limit = x) (he : e = .returned (.tuple #[.slice none 0 0, .int .i64 x])) (hb : Below w.heap.size w w') : LensPostN ks limit w e w' := by
  have h0 : lensO ks limit = [] := by unfold lensO; rw [if_neg (by rw [h]; exact hx)]
  refine ⟨none, 0, ?_, ?_, ?_, hb, fun _ p hp => by cases hp⟩
  · rw [he, h0, h]; rfl
  · rw [h0]; exact Row.zero
  · rw [h0]; exact Wf.nil

set_option maxRecDepth 100000 in
theorem lens_bad (w : World) (A : Option Addr) (n c : Nat) (ks : List Nat) (limit : Int) (hn : ks.length = n) (hN : n ≤ 9223372036854775807) (hl1 : -9223372036854775808 ≤ limit) (hl2 : limit ≤ 9223372036854775807) (h : n > 300 ∨ limit < 1 ∨ limit > 15) :
    Calls Tryz.prog 135 #[.slice A n c, .int .i64 limit] w (LensPostN ks limit w) := by
  have hE : Hid (lensE ks limit = 13) := by show _ = _; unfold lensE; rw [hn, if_pos h]
  clear hn
  by_cases h1 : 300 < n
  · clear h
    go_enter Tryz.func135, Tryz.ntmps135
    go_wp2_with fail
    go_ret2
    exact lensPost_no (by decide) hE.out rfl (Below.refl _ _)
  · have g1 : decide ((300 : Int) < (n : Int)) = false := by simp; omega
    have g2 : decide (300 < n) = false := by simp; omega
    by_cases h2 : limit < 1
    · clear h
      have g3 : decide (limit < 1) = true := by simpa using h2
      go_enter Tryz.func135, Tryz.ntmps135
      go_wp2_with fail
      go_ret2
      exact lensPost_no (by decide) hE.out rfl (Below.refl _ _)
    · have h3 : 15 < limit := by omega
      have g3 : decide (limit < 1) = false := by simp; omega
      have g4 : decide (15 < limit) = true := by simpa using h3
      clear h
      go_enter Tryz.func135, Tryz.ntmps135
      go_wp2_with fail
      go_ret2
      exact lensPost_no (by decide) hE.out rfl (Below.refl _ _)

theorem pow_wrap {L : Nat} (h : L ≤ 15) : wrap64 ((2 : Int) ^ L) = ((2 ^ L : Nat) : Int) := by
  have h1 : 2 ^ L ≤ 2 ^ 15 := Nat.pow_le_pow_right (by omega) h
  have e : (2 : Int) ^ L = ((2 ^ L : Nat) : Int) := by simp
  rw [e]
  generalize 2 ^ L = p at *
  have h2 : p ≤ 32768 := h1
  unfold wrap64
  omega
set_option maxRecDepth 100000 in
theorem lens_limit (w : World) (A : Option Addr) (n c L : Nat) (ks : List Nat) (hn : ks.length = n) (hN : n ≤ 300) (hl1 : 1 ≤ L) (hl2 : L ≤ 15) (h : 2 ^ L < (order (kOf ks) n).length) (ha : Row w w.heap.size A n 1 (numF .u32 ks)) :
    Calls Tryz.prog 135 #[.slice A n c, .int .i64 L] w (LensPostN ks L w) := by
  have hE : Hid (lensE ks L = 6) := by
    show _ = _
    unfold lensE
    rw [if_neg (by omega), if_pos]
    rw [hn]; exact h
  have C := used_any w A n c ks hn (by omega) ha
  unfold UsedPost at C
  have HN := Lib.hid hn
  rw [hn] at C
  have C := Lib.hid C
  have g1 : decide ((300 : Int) < (n : Int)) = false := by simp; omega
  have g2 : decide (300 < n) = false := by simp; omega
  have g3 : decide ((L : Int) < 1) = false := by simp; omega
  have g4 : decide ((15 : Int) < (L : Int)) = false := by simp; omega
  have g5 : decide (L < 1) = false := by simp; omega
  have g6 : decide (15 < L) = false := by simp; omega
  clear ha hn
  have t1 : decide (wrap64 ((2 : Int) ^ L) < ((order (kOf ks) n).length : Int)) = true := by rw [pow_wrap hl2]; exact decide_eq_true (Int.ofNat_lt.2 h)
  generalize order (kOf ks) n = S at *
  go_enter Tryz.func135, Tryz.ntmps135
  go_wp2_with fail
  refine C.out.mono ?_
  rintro e w1 ⟨A1, c1, rfl, hrow, hb1⟩
  go_wp2_with fail
  go_ret2
  exact lensPost_no (by decide) hE.out rfl hb1

theorem info_u8' : (Tryz.prog.info? 5).map (fun i => (i.zero, i.size, i.bytes)) = some (some (.int .u8 0), 1, 1) := by kernel_rfl
theorem make_u8 (n : Nat) (hn : n ≤ 8388608) (w : World) : (Instr.makeSlice 29 (.int .i64 (n : Int)) (.int .i64 (n : Int))).run Tryz.prog w =
    .ok (.slice (some ⟨w.heap.size, 0, none⟩) n n) (w.alloc (.cells (madeCells #[.int .u8 0] n) 5)) := by
  obtain ⟨i0, hi, hz0, hz1, hz2⟩ := info_parts info_u8'
  have h := run_make (P := Tryz.prog) w 29 5 i0 (.int .u8 0) Tryz.underlying29 hi hz0 .i64 .i64 (n : Int) (n : Int) (by omega) (Int.le_refl _) (by rw [hz2]; omega) (by omega)
  simp only [Int.toNat_natCast] at h
  simpa [hz1, Value.cells] using h

/-- A block of bytes, by places. -/
def U8s (f : Nat → Nat) (n : Nat) (cs : Array Value) : Prop := cs.size = n ∧ ∀ i, i < n → cs[i]? = some (.int .u8 (f i : Nat))
theorem U8s.made (n : Nat) : U8s (fun _ => 0) n (madeCells #[.int .u8 0] n) := by
  refine ⟨size_madeCells _ _, fun i hi => ?_⟩
  simp [madeCells, hi, Nat.mod_one]
theorem U8s.set {f g : Nat → Nat} {n : Nat} {cs : Array Value} (h : U8s f n cs) {i v : Nat} (hv : g i = v) (ho : ∀ j, j ≠ i → g j = f j) : U8s g n (cs.setIfInBounds i (.int .u8 (v : Nat))) := by
  refine ⟨by simpa using h.1, fun j hj => ?_⟩
  have hs := h.1
  rw [Array.getElem?_setIfInBounds]
  by_cases e : i = j
  · subst e
    rw [if_pos rfl, if_pos (by omega), hv]
  · rw [if_neg e, h.2 j hj, ho j (Ne.symm e)]
theorem U8s.row {w : World} {g n : Nat} {f : Nat → Nat} {cs : Array Value} {l : List Nat} (h : U8s f n cs) (hb : Blk w g 5 cs) (hl : l = (List.range n).map f) : Row w w.heap.size (some ⟨g, 0, none⟩) n 1 (numF .u8 l) := by
  subst hl
  refine Row.of_blk hb hb.lt fun i j hi hj => ?_
  obtain rfl : j = 0 := by omega
  rw [Nat.mul_one, Nat.add_zero, h.2 i hi]
  unfold numF
  rw [List.getD_eq_getElem?_getD, List.getElem?_map, List.getElem?_range hi]
  rfl
theorem lensPost_yes {ks : List Nat} {limit : Int} {w w' : World} {e : Ending} {g n : Nat} {f : Nat → Nat} {cs : Array Value} (hE : lensE ks limit = 0) (hl : lensV ks limit.toNat = (List.range n).map f)
    (h : U8s f n cs) (hb : Blk w' g 5 cs) (he : e = .returned (.tuple #[.slice (some ⟨g, 0, none⟩) n n, .int .i64 0])) (hbel : Below w.heap.size w w') (hg : w.heap.size ≤ g) : LensPostN ks limit w e w' := by
  have h0 : lensO ks limit = (List.range n).map f := by unfold lensO; rw [if_pos hE, hl]
  have hlen : (lensO ks limit).length = n := by rw [h0]; simp
  refine ⟨some ⟨g, 0, none⟩, n, ?_, ?_, ?_, hbel, fun _ p hp => by cases hp; exact hg⟩
  · rw [he, hE, hlen]
  · rw [hlen]; exact h.row hb h0
  · rw [hlen]; exact Wf.some (Nat.le_refl _)

set_option maxRecDepth 100000 in
theorem lens_few (w : World) (A : Option Addr) (n c L : Nat) (ks : List Nat) (hn : ks.length = n) (hN : n ≤ 300) (hl1 : 1 ≤ L) (hl2 : L ≤ 15) (h : (order (kOf ks) n).length < 2) (ha : Row w w.heap.size A n 1 (numF .u32 ks)) :
    Calls Tryz.prog 135 #[.slice A n c, .int .i64 L] w (LensPostN ks L w) := by
  have hp2 : 2 ≤ 2 ^ L := by have := Nat.pow_le_pow_right (n := 2) (by omega) hl1; simpa using this
  have hE : Hid (lensE ks L = 0) := by
    show _ = _
    unfold lensE
    rw [if_neg (by omega), if_neg]
    rw [hn]
    show ¬ 2 ^ L < (order (kOf ks) n).length
    omega
  have C := used_any w A n c ks hn (by omega) ha
  unfold UsedPost at C
  have HN := Lib.hid hn
  rw [hn] at C
  have C := Lib.hid C
  have g1 : decide ((300 : Int) < (n : Int)) = false := by simp; omega
  have g2 : decide (300 < n) = false := by simp; omega
  have g3 : decide ((L : Int) < 1) = false := by simp; omega
  have g4 : decide ((15 : Int) < (L : Int)) = false := by simp; omega
  have g5 : decide (L < 1) = false := by simp; omega
  have g6 : decide (15 < L) = false := by simp; omega
  have t1 : decide (wrap64 ((2 : Int) ^ L) < ((order (kOf ks) n).length : Int)) = false := by rw [pow_wrap hl2]; exact decide_eq_false (by rw [Int.ofNat_lt]; omega)
  have hV : Hid (lensV ks L = (List.range n).map fun s => if s ∈ order (kOf ks) n then 1 else 0) := by
    show _ = _
    unfold lensV
    rw [hn]
    show (if (order (kOf ks) n).length < 2 then _ else _) = _
    rw [if_pos h]
  have HS : Hid (∀ s ∈ order (kOf ks) n, s < n) := fun s hs => (order_mem.1 hs).1
  have hmk := make_u8 n (by omega)
  clear ha hn
  generalize order (kOf ks) n = S at *
  have h2 : S.length = 0 ∨ S.length = 1 := by omega
  rcases h2 with h2 | h2
  · obtain rfl : S = [] := List.eq_nil_of_length_eq_zero h2
    clear h2 h
    simp only [List.length_nil] at C
    have t2 : decide (wrap64 ((2 : Int) ^ L) < 0) = false := t1
    clear t1
    go_enter Tryz.func135, Tryz.ntmps135
    go_wp2_with fail
    refine C.out.mono ?_
    rintro e w1 ⟨A1, c1, rfl, hrow, hb1⟩
    go_wp2_with fail
    go_ret2
    refine lensPost_yes hE.out (by rw [Int.toNat_natCast, hV.out]) (cs := madeCells #[.int .u8 0] n) ?_ (Blk.made _ _ _) rfl (bel_alloc hb1.size hb1) hb1.size
    have := U8s.made n
    simpa using this
  · obtain ⟨s, rfl⟩ : ∃ s, S = [s] := List.length_eq_one_iff.1 h2
    clear h2 h
    simp only [List.length_cons, List.length_nil, Nat.zero_add] at C
    have t2 : decide (wrap64 ((2 : Int) ^ L) < 1) = false := t1
    clear t1
    have hs := HS.out s (by simp)
    go_enter Tryz.func135, Tryz.ntmps135
    go_wp2_with fail
    refine C.out.mono ?_
    rintro e w1 ⟨A1, c1, rfl, hrow, hb1⟩
    obtain ⟨b, off, x, rfl, hbb, hx, c0⟩ := num_cell hrow (by simp) (i := 0) (by omega)
    simp at hx
    subst hx
    have hz1 := hb1.size
    have bl := Blk.made w1 5 (madeCells #[.int .u8 0] n)
    have hU := U8s.made n
    have d0 := bl.cell s
    rw [hU.2 s hs] at d0
    have f0 := bl.frozen s
    have HU : Hid (U8s (fun i => if i ∈ [s] then 1 else 0) n ((madeCells #[.int .u8 0] n).setIfInBounds s (.int .u8 1))) := hU.set (v := 1) (by simp) (fun j hj => by simp [hj])
    have hbl := hb1
    clear hU
    have x2 : (0 : Int) ≤ (s : Int) := by omega
    have x3 : (s : Int) < (n : Int) := by omega
    rw [Nat.add_zero] at c0
    go_wp2_with fail
    go_ret2
    exact lensPost_yes hE.out (by rw [Int.toNat_natCast, hV.out]) HU.out (Blk.made _ _ _) rfl (bel_alloc hz1 hbl) hz1

/-- The rows that were made: each is a row of items of its own. -/
def RowsAt (w : World) (base : Nat) (k : Nat → Nat) (S : List Nat) (lf v : Value) (vals : List Value) : Prop :=
  OwnIt w base lf (lv k S) ∧ w.ownsRow base 221 1 v vals.length vals ∧ ∀ i x, vals[i]? = some x → OwnIt w base x (rowN (lv k S) i)
theorem OwnIt.kept {w w' : World} {base : Nat} {v : Value} {X : List It} (h : OwnIt w base v X) (hk : ∀ g, v.ownBlock = some g → w'.heap[g]? = w.heap[g]?) : OwnIt w' base v X := own_kept h hk
theorem RowsAt.kept {w w' : World} {base : Nat} {k : Nat → Nat} {S : List Nat} {lf v : Value} {vals : List Value} (h : RowsAt w base k S lf v vals) (hk : ∀ g, base ≤ g → g < w.heap.size → w'.heap[g]? = w.heap[g]?) : RowsAt w' base k S lf v vals := by
  obtain ⟨h1, h2, h3⟩ := h
  refine ⟨h1.kept (fun g hg => ?_), own_kept h2 (fun g hg => ?_), fun i x hx => (h3 i x hx).kept (fun g hg => ?_)⟩
  · have := World.ownsRow.lt h1 g hg
    exact hk g this.1 this.2
  · have := World.ownsRow.lt h2 g hg
    exact hk g this.1 this.2
  · have := World.ownsRow.lt (h3 i x hx) g hg
    exact hk g this.1 this.2
/-- One more row is appended. -/
theorem RowsAt.push {w w' : World} {base : Nat} {k : Nat → Nat} {S : List Nat} {lf v v' x : Value} {vals : List Value} (h : RowsAt w base k S lf v vals) (hx : OwnIt w base x (rowN (lv k S) vals.length))
    (ho : w'.ownsRow base 221 1 v' (vals.length + 1) (vals ++ [x])) (hg : w.grownBy w' v.ownBlock) : RowsAt w' base k S lf v' (vals ++ [x]) := by
  obtain ⟨h1, h2, h3⟩ := h
  have keep : ∀ (y : Value) (X : List It), OwnIt w base y X → OwnIt w' base y X := fun y X hy => hy.kept fun g hgy => by
    refine hg.block g (World.ownsRow.lt hy g hgy).2 ?_
    rcases own_apart hy h2 (by decide) with h0 | h0
    · rw [h0] at hgy; cases hgy
    · rw [← hgy]; exact h0
  refine ⟨keep _ _ h1, by simpa using ho, fun i y hy => ?_⟩
  rw [List.getElem?_append] at hy
  split at hy
  · exact keep y _ (h3 i y hy)
  · have hi : i - vals.length < [x].length := (List.getElem?_eq_some_iff.1 hy).1
    have hm := List.mem_of_getElem? hy
    simp at hm hi
    subst hm
    have : i = vals.length := by omega
    rw [this]
    exact keep y _ hx
theorem RowsAt.at_ {w : World} {base : Nat} {k : Nat → Nat} {S : List Nat} {lf v : Value} {vals : List Value} (h : RowsAt w base k S lf v vals) {i : Nat} (hi : i < vals.length) :
    ∃ g cap A c, v = .slice (some ⟨g, 0, none⟩) vals.length cap ∧ base ≤ g ∧ g < w.heap.size ∧ w.cell? ⟨g, i, none⟩ = some (.slice A (rowN (lv k S) i).length c) ∧ OwnIt w base (.slice A (rowN (lv k S) i).length c) (rowN (lv k S) i) := by
  obtain ⟨h1, h2, h3⟩ := h
  have hv : vals[i]? = some vals[i] := List.getElem?_eq_getElem hi
  have ho := h3 i _ hv
  obtain ⟨A, c, hs⟩ := ho.shape
  rcases h2.2 with ⟨_, h0⟩ | ⟨g, cap, cur, hv', hb, hh, hnc, hcap, hcs, htake⟩
  · omega
  · refine ⟨g, cap, A, c, hv', hb, Blk.lt hh, ?_, by rw [hs] at ho; exact ho⟩
    have h4 : vals[i]? = cur[i]? := by
      have h5 : (cur.toList.take (vals.length * 1))[i]? = vals[i]? := by rw [htake]
      rw [← h5, List.getElem?_take, if_pos (by omega)]; simp
    rw [Blk.cell (t := 221) hh, ← h4, hv, hs]
/-- Where the cells of a row of items lie. -/
theorem OwnIt.cells {w : World} {base c : Nat} {A : Option Addr} {X : List It} (h : OwnIt w base (.slice A X.length c) X) (h0 : 0 < X.length) :
    ∃ g, A = some ⟨g, 0, none⟩ ∧ base ≤ g ∧ g < w.heap.size ∧ X.length ≤ c ∧ c ≤ maxLen ∧ ∀ i x, X[i]? = some x → w.cell? ⟨g, i * 2, none⟩ = some (.int .u64 (x.1 : Nat)) ∧ w.cell? ⟨g, i * 2 + 1, none⟩ = some (.bool (leafB x)) := by
  rcases h.2 with ⟨_, h1⟩ | ⟨g, cap, cur, hv, hb, hh, hnc, hcap, hcs, htake⟩
  · omega
  · injection hv with e1 e2 e3
    subst e1 e3
    refine ⟨g, rfl, hb, Blk.lt hh, hnc, hcap, fun i x hx => ?_⟩
    have hi : i < X.length := (List.getElem?_eq_some_iff.1 hx).1
    have hg : X.getD i (0, []) = x := by rw [List.getD_eq_getElem?_getD, hx]; rfl
    have key : ∀ j, j < 2 → w.cell? ⟨g, i * 2 + j, none⟩ = some (itF X i j) := fun j hj => by
      rw [Blk.cell (t := 226) hh, ← itL_get X i j hi hj, ← htake, List.getElem?_take, if_pos (by omega)]
      simp
    have k0 := key 0 (by omega)
    have k1 := key 1 (by omega)
    rw [itF, if_pos rfl, hg] at k0
    rw [itF, if_neg (by omega), hg] at k1
    exact ⟨k0, k1⟩

/-- What is still to be counted. -/
def restR (k : Nat → Nat) (S : List Nat) : Nat → Nat → Nat → Nat
  | 0, _, _ => 0
  | R + 1, t, s => lenR k S R t s
def takeOk (k : Nat → Nat) (S : List Nat) (R t : Nat) : Prop := R = 0 ∨ t ≤ (rowN (lv k S) (R - 1)).length
theorem restR_step {k : Nat → Nat} {S : List Nat} (R t s : Nat) (ht : t ≤ (rowN (lv k S) R).length) :
    restR k S (R + 1) t s = (if s ∈ S.take (nl (rowN (lv k S) R) t) then 1 else 0) + restR k S R (2 * (t - nl (rowN (lv k S) R) t)) s ∧ takeOk k S R (2 * (t - nl (rowN (lv k S) R) t)) := by
  rcases R with _ | R
  · exact ⟨rfl, .inl rfl⟩
  · obtain ⟨n, q, h1, h2, h3, h4, _⟩ := row_take R t ht
    refine ⟨rfl, .inr ?_⟩
    rw [h4, Nat.add_sub_cancel]
    rw [show t - n = q by omega]
    exact h3
/-- The lengths as far as they are counted. -/
def CntAt (k : Nat → Nat) (S : List Nat) (L : Nat) (R t : Nat) (f : Nat → Nat) : Prop := ∀ s, lenR k S (L - 1) (2 * S.length - 2) s = f s + restR k S R t s
def InAt (S : List Nat) (f0 f : Nat → Nat) (m : Nat) : Prop := ∀ s, f s = f0 s + if s ∈ S.take m then 1 else 0
theorem InAt.step {S : List Nat} {f0 f : Nat → Nat} {m s : Nat} (hS : S.Nodup) (h : InAt S f0 f m) (hs : S[m]? = some s) : InAt S f0 (fun j => if j = s then f s + 1 else f j) (m + 1) ∧ f s = f0 s := by
  have hlt : m < S.length := (List.getElem?_eq_some_iff.1 hs).1
  have htk : S.take (m + 1) = S.take m ++ [s] := by rw [List.take_add_one, hs]; rfl
  have hn : s ∉ S.take m := by
    intro hm
    have h2 := hS.sublist (List.take_sublist (m + 1) S)
    rw [htk, List.nodup_append] at h2
    exact h2.2.2 s hm s (by simp) rfl
  have h1 := h s
  rw [if_neg hn] at h1
  refine ⟨fun j => ?_, by omega⟩
  show (if j = s then f s + 1 else f j) = _
  rw [htk]
  by_cases e : j = s
  · subst e
    rw [if_pos rfl, if_pos (by simp)]; omega
  · rw [if_neg e, h j]
    simp [e]
theorem nl_le (X : List It) (i : Nat) : nl X i ≤ i := by
  unfold nl
  have := List.countP_le_length (p := leafB) (l := X.take i)
  rw [List.length_take] at this
  omega

theorem run_head {P : Program} {t e : TypeId} {s : Nat} (ht : P.underlying t = some (.slice e)) (hs : ∀ w, (sizeOf e).run P w = .ok s w) (A : Option Addr) (len cap : Nat) (kh : IntKind) (h : Int) (m : Nat) (hh : h = m) (hm : m ≤ cap) (w : World) :
    (Instr.slice t (.slice A len cap) none (some (.int kh h)) none).run P w = .ok (.slice (cutA A 0 cap s) m cap) w := by
  subst hh
  have he : P.elem t = e := by simp [Program.elem, ht]
  rw [run_slice_h w t A len cap (by rw [he]; exact ht) kh (m : Int) (by omega) (by omega), he, hs]
  rfl
end Go.Proofs.YtidclmmnfienlaaGreatDoor.Lens

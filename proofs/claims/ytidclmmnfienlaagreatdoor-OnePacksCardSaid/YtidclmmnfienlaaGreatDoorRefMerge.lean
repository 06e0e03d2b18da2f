/-
  The reference's rows of items with their symbols (chapter 7); the walk of its merge.
-/
import Derived.Test.YtidclmmnfienlaaGreatDoorLensMany
import Derived.Test.YtidclmmnfienlaaGreatDoorLensFO
namespace Go.Proofs.YtidclmmnfienlaaGreatDoor.Lens
open Go.RowKit Go.Proofs.YtidclmmnfienlaaGreatDoor.Mem Go.Proofs.YtidclmmnfienlaaGreatDoor.Own Go.Proofs.YtidclmmnfienlaaGreatDoor.Srt Go.Proofs.YtidclmmnfienlaaGreatDoor.Canon

/-- An item, and the slice of its symbols. -/
abbrev RI := It × Value
def ri0 : RI := ((0, []), .slice none 0 0)
def rcL (R : List RI) : List Value := R.flatMap fun p => [.int .u64 (p.1.1 : Nat), p.2]
def rcF (R : List RI) : Nat → Nat → Value := fun i j => if j = 0 then .int .u64 ((R.getD i ri0).1.1 : Nat) else (R.getD i ri0).2
theorem rcL_append (a b : List RI) : rcL (a ++ b) = rcL a ++ rcL b := by simp [rcL]
theorem rcL_length (X : List RI) : (rcL X).length = X.length * 2 := by
  induction X with
  | nil => rfl
  | cons x t ih => simp only [rcL, List.flatMap_cons, List.length_append, List.length_cons, List.length_nil] at ih ⊢; omega
theorem rcL_get : ∀ (X : List RI) (i j : Nat), i < X.length → j < 2 → (rcL X)[i * 2 + j]? = some (rcF X i j)
  | [], i, j, h, _ => by simp at h
  | x :: t, 0, j, _, hj => by
    have : j = 0 ∨ j = 1 := by omega
    rcases this with rfl | rfl <;> simp [rcL, rcF]
  | x :: t, i + 1, j, h, hj => by
    have := rcL_get t i j (by simpa using h) hj
    rw [rcL, List.flatMap_cons, show (i + 1) * 2 + j = (i * 2 + j) + 2 by omega, List.getElem?_append_right (by simp)]
    simpa [rcF, rcL] using this
/-- Each item's symbols lie in memory of their own. -/
def Sv (w : World) (base : Nat) (R : List RI) : Prop := ∀ p ∈ R, w.ownsRow base 3 1 p.2 p.1.2.length (numL .i64 p.1.2)
theorem Sv.one {w : World} {base : Nat} {R : List RI} (h : Sv w base R) : ∀ u ∈ rcL R, u.oneCell' = true := by
  intro u hu
  obtain ⟨p, hp, hr⟩ := List.mem_flatMap.1 hu
  simp only [List.mem_cons, List.not_mem_nil, or_false] at hr
  rcases hr with rfl | rfl
  · rfl
  · obtain ⟨A, c, hs⟩ := own_shape (h p hp)
    rw [hs]; rfl
theorem Sv.step {w w' : World} {base : Nat} {R : List RI} (h : Sv w base R) (hb : Below w.heap.size w w') : Sv w' base R := fun p hp => own_kept (h p hp) fun g hg => hb.block g (World.ownsRow.lt (h p hp) g hg).2
theorem Sv.grown {w w' : World} {base base' n : Nat} {R : List RI} {v : Value} {xs : List Value} (h : Sv w base R) (hv : w.ownsRow base' 217 2 v n xs) (hg : w.grownBy w' v.ownBlock) : Sv w' base R := fun p hp => own_kept (h p hp) fun g hgp => by
  refine hg.block g (World.ownsRow.lt (h p hp) g hgp).2 ?_
  rcases own_apart (h p hp) hv (by decide) with h0 | h0
  · rw [h0] at hgp; cases hgp
  · rw [← hgp]; exact h0
/-- A row of the reference's items. -/
def RowI (w : World) (base : Nat) (v : Value) (R : List RI) : Prop := w.ownsRow base 217 2 v R.length (rcL R)
theorem RowI.row {w : World} {base c : Nat} {A : Option Addr} {R : List RI} (h : RowI w base (.slice A R.length c) R) : Row w w.heap.size A R.length 2 (rcF R) := Row.of_own h rfl fun i j hi hj => rcL_get R i j hi hj
theorem RowI.shape {w : World} {base : Nat} {v : Value} {R : List RI} (h : RowI w base v R) : ∃ A c, v = .slice A R.length c := own_shape h
theorem row_ri {w : World} {B n : Nat} {A : Option Addr} {R : List RI} (h : Row w B A n 2 (rcF R)) (hn : R.length = n) {k : Nat} (hk : k < n) :
    ∃ b off p, A = some ⟨b, off, none⟩ ∧ b < B ∧ R[k]? = some p ∧ w.cell? ⟨b, off + k * 2, none⟩ = some (.int .u64 (p.1.1 : Nat)) ∧ w.cell? ⟨b, off + k * 2 + 1, none⟩ = some p.2 := by
  obtain ⟨b, off, e, hb, hc⟩ := h (by omega)
  have hl : k < R.length := by omega
  have h0 := hc k 0 hk (by omega)
  have h1 := hc k 1 hk (by omega)
  have hg : R.getD k ri0 = R[k] := by rw [List.getD_eq_getElem?_getD, List.getElem?_eq_getElem hl]; rfl
  rw [rcF, if_pos rfl, hg] at h0
  rw [rcF, if_neg (by omega), hg] at h1
  exact ⟨b, off, R[k], e, hb, List.getElem?_eq_getElem hl, h0, h1⟩
theorem info_ri : (Tryz.prog.info? 217).map (fun i => (i.zero, i.size, i.bytes)) = some (some (.agg #[.int .u64 0, .slice none 0 0]), 2, 32) := by kernel_rfl

/-- How far it is merged. -/
def RMAt (R1 R2 : List RI) (i k : Nat) (done : List RI) : Prop := done.map (·.1) ++ mrg ((R1.map (·.1)).drop i) ((R2.map (·.1)).drop k) = mrg (R1.map (·.1)) (R2.map (·.1)) ∧ ∀ p ∈ done, p ∈ R1 ∨ p ∈ R2
theorem RMAt.len {R1 R2 : List RI} {i k : Nat} {done : List RI} (h : RMAt R1 R2 i k done) : done.length ≤ R1.length + R2.length := by
  have := congrArg List.length h.1
  rw [List.length_append, mrg_length, mrg_length] at this
  simp at this
  omega
theorem map_at {R : List RI} {i : Nat} {p : RI} (h : R[i]? = some p) : (R.map (·.1))[i]? = some p.1 := by rw [List.getElem?_map, h]; rfl
theorem RMAt.left {R1 R2 : List RI} {i k : Nat} {done : List RI} {p : RI} (h : RMAt R1 R2 i k done) (hp : R1[i]? = some p) (hc : R2.length ≤ k ∨ ∃ q, R2[k]? = some q ∧ p.1.1 ≤ q.1.1) : RMAt R1 R2 (i + 1) k (done ++ [p]) := by
  refine ⟨?_, fun r hr => ?_⟩
  · rw [← h.1, drop_at (map_at hp), List.map_append, List.append_assoc]
    congr 1
    rcases hc with hc | ⟨q, hq, hle⟩
    · have hd : (R2.map (·.1)).drop k = [] := List.drop_of_length_le (by simpa using hc)
      rw [hd, mrg_right, mrg_right]; rfl
    · rw [drop_at (map_at hq), mrg_le hle]; rfl
  · rcases List.mem_append.1 hr with hr | hr
    · exact h.2 r hr
    · rw [List.mem_singleton] at hr; subst hr; exact .inl (List.mem_of_getElem? hp)
theorem RMAt.right {R1 R2 : List RI} {i k : Nat} {done : List RI} {q : RI} (h : RMAt R1 R2 i k done) (hq : R2[k]? = some q) (hc : R1.length ≤ i ∨ ∃ p, R1[i]? = some p ∧ ¬ p.1.1 ≤ q.1.1) : RMAt R1 R2 i (k + 1) (done ++ [q]) := by
  refine ⟨?_, fun r hr => ?_⟩
  · rw [← h.1, drop_at (map_at hq), List.map_append, List.append_assoc]
    congr 1
    rcases hc with hc | ⟨p, hp, hle⟩
    · have hd : (R1.map (·.1)).drop i = [] := List.drop_of_length_le (by simpa using hc)
      rw [hd, mrg_left, mrg_left]; rfl
    · rw [drop_at (map_at hp), mrg_gt hle]; rfl
  · rcases List.mem_append.1 hr with hr | hr
    · exact h.2 r hr
    · rw [List.mem_singleton] at hr; subst hr; exact .inr (List.mem_of_getElem? hq)
theorem RMAt.done {R1 R2 : List RI} {i k : Nat} {done : List RI} (h : RMAt R1 R2 i k done) (hi : R1.length ≤ i) (hk : R2.length ≤ k) : done.map (·.1) = mrg (R1.map (·.1)) (R2.map (·.1)) := by
  have := h.1
  rw [List.drop_of_length_le (by simpa using hi), mrg_left, List.drop_of_length_le (by simpa using hk), List.append_nil] at this
  exact this

def RMPost (R1 R2 : List RI) (w : World) (e : Ending) (w' : World) : Prop :=
  ∃ v done, e = .returned v ∧ RowI w' w.heap.size v done ∧ done.map (·.1) = mrg (R1.map (·.1)) (R2.map (·.1)) ∧ (∀ p ∈ done, p ∈ R1 ∨ p ∈ R2) ∧ Below w.heap.size w w'

set_option maxHeartbeats 1000000 in
set_option maxRecDepth 100000 in
theorem rmerge_any (w : World) (A B : Option Addr) (n c m d : Nat) (R1 R2 : List RI) (hn : R1.length = n) (hm : R2.length = m) (hN : n ≤ 1000) (hM : m ≤ 1000) (hs1 : ∀ p ∈ R1, ∃ A c, p.2 = .slice A p.1.2.length c) (hs2 : ∀ p ∈ R2, ∃ A c, p.2 = .slice A p.1.2.length c)
    (ha : Row w w.heap.size A n 2 (rcF R1)) (hb : Row w w.heap.size B m 2 (rcF R2)) :
    Calls Tryz.prog 151 #[.slice A n c, .slice B m d] w (RMPost R1 R2 w) := by
  have HN := Lib.hid hn
  have HM := Lib.hid hm
  have HA := Lib.hid ha
  have HB := Lib.hid hb
  have HS1 := Lib.hid hs1
  have HS2 := Lib.hid hs2
  obtain ⟨j0, hj0, hy0, hy1, hy2⟩ := info_parts info_ri
  clear hn hm ha hb hs1 hs2
  go_enter Tryz.func151, Tryz.ntmps151
  go_wp2_with fail
  go_loopw [5, 6, 7] (fun v iv kv wr => ∃ (i k q : Nat) (done : List RI), i ≤ n ∧ k ≤ m ∧ q ≤ 2001 ∧ iv = .int .i64 i ∧ kv = .int .i64 k ∧ Hid (done.length = q) ∧ wr.ownsRow w.heap.size 217 2 v q (rcL done) ∧ Hid (RMAt R1 R2 i k done) ∧ Below w.heap.size w wr) (fun _ i k _ => (n - (intOf i).toNat) + (m - (intOf k).toNat))
  case atStart => exact ⟨0, 0, 0, [], by omega, by omega, by omega, rfl, rfl, rfl, World.ownsRow_nil _ _ _ _, ⟨rfl, fun p h => by cases h⟩, Below.refl _ _⟩
  case round =>
    obtain ⟨i, k, q, done, hi, hk, hq, rfl, rfl, hql, hown, hat, bel⟩ := hrel
    have hbs := bel.size
    have hq2 : q ≤ n + m := by have := hat.out.len; rw [hql.out, HN.out, HM.out] at this; exact this
    obtain ⟨va, vc, rfl⟩ := own_shape hown
    have hr : Hid (∀ k, (Value.slice va q vc).ownBlock = some k → w.heap.size ≤ k) := fun k hk => (World.ownsRow.lt hown k hk).1
    have x0 : (0 : Int) ≤ (i : Int) := by omega
    have z0 : (0 : Int) ≤ (k : Int) := by omega
    have HO := Lib.hid hown
    have BEL := Lib.hid bel
    by_cases hkm : k < m
    · have z1 : (k : Int) < (m : Int) := by omega
      have z2 : ((k : Int) == (m : Int)) = false := by simp; omega
      obtain ⟨b, off, y, rfl, hbb, hy, c0, c1⟩ := row_ri (HB.out.below bel) HM.out hkm
      obtain ⟨sA, sc, hsv⟩ := HS2.out y (List.mem_of_getElem? hy)
      have hright := hat.out.right hy
      have hleft := fun p hp hle => hat.out.left (p := p) hp (.inr ⟨y, hy, hle⟩)
      obtain ⟨⟨ya, ys⟩, yv⟩ := y
      simp only at hsv c0 c1 hright hleft
      subst hsv
      have HRIGHT := Lib.hid hright
      have HLEFT := Lib.hid hleft
      clear hy hright hleft hown bel
      by_cases hin : i < n
      · have x1 : (i : Int) < (n : Int) := by omega
        obtain ⟨b2, off2, x, rfl, hbb2, hx, d0, d1⟩ := row_ri (HA.out.below BEL.out) HN.out hin
        obtain ⟨tA, tc, htv⟩ := HS1.out x (List.mem_of_getElem? hx)
        obtain ⟨⟨xa, xs⟩, xv⟩ := x
        simp only at htv d0 d1
        subst htv
        have HXX := Lib.hid hx
        obtain ⟨xl, hxl⟩ : ∃ xl, xl = xs.length := ⟨_, rfl⟩
        rw [← hxl] at d1
        have HXL := Lib.hid hxl
        obtain ⟨yl, hyl⟩ : ∃ yl, yl = ys.length := ⟨_, rfl⟩
        rw [← hyl] at c1
        have HYL := Lib.hid hyl
        clear hx hxl hyl
        by_cases hle : xa ≤ ya
        · go_wp2_with fail
          go_quiet (fail)
          have hown2 : (wr.drewN nq).ownsRow w.heap.size 217 2 (.slice va q vc) q (rcL done) := own_kept HO.out (fun _ _ => rfl)
          have bel2 : Below w.heap.size w (wr.drewN nq) := below_drewN BEL.out nq
          have hbs2 : w.heap.size ≤ (wr.drewN nq).heap.size := hbs
          have d0' : (wr.drewN nq).cell? ⟨b2, off2 + i * 2, none⟩ = some (.int .u64 (xa : Nat)) := d0
          have d1' : (wr.drewN nq).cell? ⟨b2, off2 + i * 2 + 1, none⟩ = some (.slice tA xl tc) := d1
          clear d0 d1 c0 c1
          generalize wr.drewN nq = wq at *
          have HO2 := Lib.hid hown2
          have BEL2 := Lib.hid bel2
          clear hown2 bel2 HO BEL
          go_wp2_with (at_builtin; refine wpList_app rfl (.tmp 41) (.tmp 46) 215 rfl w.heap.size 217 j0 _ 2 32 Tryz.underlying215 hj0 hy0 hy1 hy2 rfl (by decide) _ _ _ (by rfl) (HO2.out.alloc _) _ 1 1 [.int .u64 (xa : Nat), .slice tA xl tc] (by rfl) (Src.of_blk (Blk.made _ _ _) 1 1 2 rfl) (by intro u hu; simp at hu; rcases hu with rfl | rfl <;> rfl) (by unfold maxLen; omega) (by omega) (by simp; omega) ?_; intro v4 w4 hown4 hg4 hat4)
          go_roundw
          case measure => go_light; simp [intOf]; omega
          case rel =>
            go_light
            refine ⟨i + 1, k, q + 1, done ++ [((xa, xs), .slice tA xs.length tc)], by omega, by omega, by omega, by go_num, rfl, ?_, ?_, Lib.hid (HLEFT.out _ HXX.out hle), (bel_alloc hbs2 BEL2.out).grown hg4 (by simp; omega) (fun k hk => hr.out k hk)⟩
            · show _ = _; rw [List.length_append, hql.out]; rfl
            · rw [rcL_append]; rw [HXL.out] at hown4; exact hown4
        · go_wp2_with fail
          go_quiet (fail)
          have hown2 : (wr.drewN nq).ownsRow w.heap.size 217 2 (.slice va q vc) q (rcL done) := own_kept HO.out (fun _ _ => rfl)
          have bel2 : Below w.heap.size w (wr.drewN nq) := below_drewN BEL.out nq
          have hbs2 : w.heap.size ≤ (wr.drewN nq).heap.size := hbs
          have c0' : (wr.drewN nq).cell? ⟨b, off + k * 2, none⟩ = some (.int .u64 (ya : Nat)) := c0
          have c1' : (wr.drewN nq).cell? ⟨b, off + k * 2 + 1, none⟩ = some (.slice sA yl sc) := c1
          clear d0 d1 c0 c1
          have hlt2 : ya < xa := by omega
          generalize wr.drewN nq = wq at *
          have HO2 := Lib.hid hown2
          have BEL2 := Lib.hid bel2
          clear hown2 bel2 HO BEL
          go_wp2_with (at_builtin; refine wpList_app rfl (.tmp 50) (.tmp 55) 215 rfl w.heap.size 217 j0 _ 2 32 Tryz.underlying215 hj0 hy0 hy1 hy2 rfl (by decide) _ _ _ (by rfl) (HO2.out.alloc _) _ 1 1 [.int .u64 (ya : Nat), .slice sA yl sc] (by rfl) (Src.of_blk (Blk.made _ _ _) 1 1 2 rfl) (by intro u hu; simp at hu; rcases hu with rfl | rfl <;> rfl) (by unfold maxLen; omega) (by omega) (by simp; omega) ?_; intro v4 w4 hown4 hg4 hat4)
          go_roundw
          case measure => go_light; simp [intOf]; omega
          case rel =>
            go_light
            refine ⟨i, k + 1, q + 1, done ++ [((ya, ys), .slice sA ys.length sc)], by omega, by omega, by omega, rfl, by go_num, ?_, ?_, Lib.hid (HRIGHT.out (.inr ⟨_, HXX.out, hle⟩)), (bel_alloc hbs2 BEL2.out).grown hg4 (by simp; omega) (fun k hk => hr.out k hk)⟩
            · show _ = _; rw [List.length_append, hql.out]; rfl
            · rw [rcL_append]; rw [HYL.out] at hown4; exact hown4
      · obtain ⟨yl, hyl⟩ : ∃ yl, yl = ys.length := ⟨_, rfl⟩
        rw [← hyl] at c1
        have HYL := Lib.hid hyl
        have k1 : decide (i < n) = false := by simpa using hin
        have k2 : decide ((i : Int) < (n : Int)) = false := by simp; omega
        clear hyl
        go_wp2_with fail
        go_quiet (fail)
        have hown2 : (wr.drewN nq).ownsRow w.heap.size 217 2 (.slice va q vc) q (rcL done) := own_kept HO.out (fun _ _ => rfl)
        have bel2 : Below w.heap.size w (wr.drewN nq) := below_drewN BEL.out nq
        have hbs2 : w.heap.size ≤ (wr.drewN nq).heap.size := hbs
        have c0' : (wr.drewN nq).cell? ⟨b, off + k * 2, none⟩ = some (.int .u64 (ya : Nat)) := c0
        have c1' : (wr.drewN nq).cell? ⟨b, off + k * 2 + 1, none⟩ = some (.slice sA yl sc) := c1
        clear c0 c1
        generalize wr.drewN nq = wq at *
        have HO2 := Lib.hid hown2
        have BEL2 := Lib.hid bel2
        clear hown2 bel2 HO BEL
        go_wp2_with (at_builtin; refine wpList_app rfl (.tmp 50) (.tmp 55) 215 rfl w.heap.size 217 j0 _ 2 32 Tryz.underlying215 hj0 hy0 hy1 hy2 rfl (by decide) _ _ _ (by rfl) (HO2.out.alloc _) _ 1 1 [.int .u64 (ya : Nat), .slice sA yl sc] (by rfl) (Src.of_blk (Blk.made _ _ _) 1 1 2 rfl) (by intro u hu; simp at hu; rcases hu with rfl | rfl <;> rfl) (by unfold maxLen; omega) (by omega) (by simp; omega) ?_; intro v4 w4 hown4 hg4 hat4)
        go_roundw
        case measure => go_light; simp [intOf]; omega
        case rel =>
          go_light
          refine ⟨i, k + 1, q + 1, done ++ [((ya, ys), .slice sA ys.length sc)], by omega, by omega, by omega, rfl, by go_num, ?_, ?_, Lib.hid (HRIGHT.out (.inl (by rw [HN.out]; omega))), (bel_alloc hbs2 BEL2.out).grown hg4 (by simp; omega) (fun k hk => hr.out k hk)⟩
          · show _ = _; rw [List.length_append, hql.out]; rfl
          · rw [rcL_append]; rw [HYL.out] at hown4; exact hown4
    · obtain rfl : k = m := by omega
      by_cases hin : i < n
      · have x1 : (i : Int) < (n : Int) := by omega
        obtain ⟨b2, off2, x, rfl, hbb2, hx, d0, d1⟩ := row_ri (HA.out.below BEL.out) HN.out hin
        obtain ⟨tA, tc, htv⟩ := HS1.out x (List.mem_of_getElem? hx)
        have hleft := hat.out.left hx (.inl (by rw [HM.out]; omega))
        obtain ⟨⟨xa, xs⟩, xv⟩ := x
        simp only at htv d0 d1
        subst htv
        have HLEFT := Lib.hid hleft
        obtain ⟨xl, hxl⟩ : ∃ xl, xl = xs.length := ⟨_, rfl⟩
        rw [← hxl] at d1
        have HXL := Lib.hid hxl
        clear hx hxl hleft hown bel
        go_wp2_with fail
        go_quiet (fail)
        have hown2 : (wr.drewN nq).ownsRow w.heap.size 217 2 (.slice va q vc) q (rcL done) := own_kept HO.out (fun _ _ => rfl)
        have bel2 : Below w.heap.size w (wr.drewN nq) := below_drewN BEL.out nq
        have hbs2 : w.heap.size ≤ (wr.drewN nq).heap.size := hbs
        have d0' : (wr.drewN nq).cell? ⟨b2, off2 + i * 2, none⟩ = some (.int .u64 (xa : Nat)) := d0
        have d1' : (wr.drewN nq).cell? ⟨b2, off2 + i * 2 + 1, none⟩ = some (.slice tA xl tc) := d1
        clear d0 d1
        generalize wr.drewN nq = wq at *
        have HO2 := Lib.hid hown2
        have BEL2 := Lib.hid bel2
        clear hown2 bel2 HO BEL
        go_wp2_with (at_builtin; refine wpList_app rfl (.tmp 41) (.tmp 46) 215 rfl w.heap.size 217 j0 _ 2 32 Tryz.underlying215 hj0 hy0 hy1 hy2 rfl (by decide) _ _ _ (by rfl) (HO2.out.alloc _) _ 1 1 [.int .u64 (xa : Nat), .slice tA xl tc] (by rfl) (Src.of_blk (Blk.made _ _ _) 1 1 2 rfl) (by intro u hu; simp at hu; rcases hu with rfl | rfl <;> rfl) (by unfold maxLen; omega) (by omega) (by simp; omega) ?_; intro v4 w4 hown4 hg4 hat4)
        go_roundw
        case measure => go_light; simp [intOf]; omega
        case rel =>
          go_light
          refine ⟨i + 1, k, q + 1, done ++ [((xa, xs), .slice tA xs.length tc)], by omega, by omega, by omega, by go_num, rfl, ?_, ?_, HLEFT, (bel_alloc hbs2 BEL2.out).grown hg4 (by simp; omega) (fun k hk => hr.out k hk)⟩
          · show _ = _; rw [List.length_append, hql.out]; rfl
          · rw [rcL_append]; rw [HXL.out] at hown4; exact hown4
      · have hdone := hat.out.done (by rw [HN.out]; omega) (by rw [HM.out]; omega)
        have HD := Lib.hid hdone
        have k1 : decide (i < n) = false := by simpa using hin
        have k2 : decide ((i : Int) < (n : Int)) = false := by simp; omega
        have k3 : decide (k < k) = false := by simp
        have k4 : decide ((k : Int) < (k : Int)) = false := by simp
        clear hdone
        go_wp2_with fail
        go_ret
        refine ⟨_, done, rfl, ?_, HD.out, hat.out.2, bel⟩
        show World.ownsRow _ _ _ _ _ _ _
        rw [hql.out]
        exact hown
end Go.Proofs.YtidclmmnfienlaaGreatDoor.Lens

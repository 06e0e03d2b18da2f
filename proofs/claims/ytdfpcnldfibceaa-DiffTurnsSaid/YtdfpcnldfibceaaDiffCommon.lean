/-
  The walk of the reference's Common.
-/
import Derived.Test.YtdfpcnldfibceaaDiffFill
namespace Go.Proofs.Ytdfpcnldfibceaa.Diff
open Go.RowKit Go.Proofs.Ytdfpcnldfibceaa.Mem Go.Proofs.Ytdfpcnldfibceaa.Recs

theorem info_int : (Try.prog.info? 3).map (fun i => (i.zero, i.size, i.bytes)) = some (some (.int .i64 0), 1, 8) := by kernel_rfl
theorem make_int1 (m : Nat) (hm : m ≤ 8388608) (w : World) : (Instr.makeSlice 67 (.int .i64 ((m : Int) + 1)) (.int .i64 ((m : Int) + 1))).run Try.prog w =
    .ok (.slice (some ⟨w.heap.size, 0, none⟩) (m + 1) (m + 1)) (w.alloc (.cells (madeCells #[.int .i64 0] (m + 1)) 3)) := by
  obtain ⟨i0, hi, hz0, hz1, hz2⟩ := info_parts info_int
  have h := run_make (P := Try.prog) w 67 3 i0 (.int .i64 0) Try.underlying67 hi hz0 .i64 .i64 ((m + 1 : Nat) : Int) ((m + 1 : Nat) : Int) (by omega) (Int.le_refl _) (by rw [hz2]; omega) (by omega)
  simp only [Int.toNat_natCast] at h
  simpa [hz1, Value.cells] using h

/-- The row behind the first I records, as far as column J. -/
def CRow (la lb : List Rec) (m I J : Nat) (cs : Array Value) : Prop :=
  cs.size = m + 1 ∧ ∀ j, j ≤ J → cs[j]? = some (.int .i64 (lcs (la.take I) (lb.take j)))
theorem CRow.zero (la lb : List Rec) (m : Nat) : CRow la lb m 0 m (madeCells #[.int .i64 0] (m + 1)) := by
  refine ⟨size_madeCells _ _, fun j hj => ?_⟩
  rw [List.take_zero, lcs_nil_left]
  simp [madeCells, Nat.lt_succ_of_le hj, Nat.mod_one]
theorem CRow.start (la lb : List Rec) (m I : Nat) : CRow la lb m I 0 (madeCells #[.int .i64 0] (m + 1)) := by
  refine ⟨size_madeCells _ _, fun j hj => ?_⟩
  obtain rfl : j = 0 := by omega
  rw [List.take_zero, lcs_nil_right]
  simp [madeCells, Nat.mod_one]
theorem CRow.step {la lb : List Rec} {m I J : Nat} {cs : Array Value} {v : Int} (h : CRow la lb m I J cs) (hJ : J < m) (hv : v = lcs (la.take I) (lb.take (J + 1))) : CRow la lb m I (J + 1) (cs.setIfInBounds (J + 1) (.int .i64 v)) := by
  refine ⟨by rw [Array.size_setIfInBounds]; exact h.1, fun j hj => ?_⟩
  rw [Array.getElem?_setIfInBounds]
  by_cases e : J + 1 = j
  · subst e
    rw [if_pos rfl, if_pos (by have := h.1; omega), hv]
  · rw [if_neg e]
    exact h.2 j (by omega)
theorem lcs_take {la lb : List Rec} {I J : Nat} {r r' : Rec} (h1 : la[I]? = some r) (h2 : lb[J]? = some r') :
    lcs (la.take (I + 1)) (lb.take (J + 1)) = if r = r' then lcs (la.take I) (lb.take J) + 1 else max (lcs (la.take I) (lb.take (J + 1))) (lcs (la.take (I + 1)) (lb.take J)) := by
  have e1 : la.take (I + 1) = la.take I ++ [r] := by rw [List.take_add_one, h1]; rfl
  have e2 : lb.take (J + 1) = lb.take J ++ [r'] := by rw [List.take_add_one, h2]; rfl
  rw [e1, e2, lcs_snoc]

set_option maxHeartbeats 1000000 in
set_option maxRecDepth 100000 in
theorem common_any (w : World) (A B : Option Addr) (n m c d : Nat) (la lb : List Rec) (hn : la.length = n) (hm : lb.length = m) (hN : n ≤ 1000) (hM : m ≤ 1000)
    (ha : Row w w.heap.size A n 4 (recF la)) (hb : Row w w.heap.size B m 4 (recF lb)) :
    Calls Try.prog 90 #[.slice A n c, .slice B m d] w fun e w' => e = .returned (.int .i64 (lcs la lb)) ∧ Below w.heap.size w w' := by
  have HN := Lib.hid hn
  have HM := Lib.hid hm
  have hmk := make_int1 m (by omega)
  clear hn hm
  go_enter Try.func90, Try.ntmps90
  go_wp2_with fail
  go_loopw [5, 6] (fun row i wr => ∃ (I g : Nat) (cs : Array Value), I ≤ n ∧ i = .int .i64 I ∧ row = .slice (some ⟨g, 0, none⟩) (m + 1) (m + 1) ∧ Blk wr g 3 cs ∧ w.heap.size ≤ g ∧ Hid (CRow la lb m I m cs) ∧ Below w.heap.size w wr)
    (fun _ i _ => n - (intOf i).toNat)
  case atStart => exact ⟨0, _, _, by omega, rfl, rfl, Blk.made _ _ _, Nat.le_refl _, CRow.zero _ _ _, bel_alloc0 (Below.refl _ _)⟩
  case round =>
    obtain ⟨I, g, cs, hI, rfl, rfl, bg, hg, crow, rbel⟩ := hrel
    have hbel := rbel.size
    by_cases hlI : I < n
    · go_wp2_with fail
      obtain ⟨wo, rfl⟩ : ∃ wo : World, wo = wr := ⟨_, rfl⟩
      have hgl := bg.lt
      have bg' : Blk (wo.alloc (.cells (madeCells #[.int .i64 0] (m + 1)) 3)) g 3 cs := bg.alloc _
      have bh' : Blk (wo.alloc (.cells (madeCells #[.int .i64 0] (m + 1)) 3)) wo.heap.size 3 (madeCells #[.int .i64 0] (m + 1)) := Blk.made _ _ _
      have bb' : Below w.heap.size w (wo.alloc (.cells (madeCells #[.int .i64 0] (m + 1)) 3)) := bel_alloc hbel rbel
      clear bg
      go_loopw [8] (fun j wr => ∃ (J : Nat) (ds : Array Value), J ≤ m ∧ j = .int .i64 J ∧ Blk wr g 3 cs ∧ Blk wr wo.heap.size 3 ds ∧ Hid (CRow la lb m (I + 1) J ds) ∧ Below w.heap.size w wr)
        (fun j _ => m - (intOf j).toNat)
      case atStart => exact ⟨0, _, by omega, rfl, bg', bh', CRow.start _ _ _ _, bb'⟩
      case round =>
        clear bg' bh' bb'
        obtain ⟨J, ds, hJ, rfl, bg, bh, drow, rbel2⟩ := hrel
        by_cases hlJ : J < m
        · obtain ⟨b, off, r, rfl, hbb, hr, c0, c1, c2, c3⟩ := Row.rec (ha.below rbel2) HN.out hlI
          obtain ⟨b', off', r', rfl, hbb', hr', d0, d1, d2, d3⟩ := Row.rec (hb.below rbel2) HM.out hlJ
          have hrec := lcs_take hr hr'
          have q1 := crow.out.2 J (by omega)
          have q2 := crow.out.2 (J + 1) (by omega)
          have q3 := drow.out.2 J (by omega)
          have b1 : lcs (la.take I) (lb.take J) ≤ 1000 := Nat.le_trans (lcs_le_left _ _) (by rw [List.length_take]; omega)
          have b2 : lcs (la.take I) (lb.take (J + 1)) ≤ 1000 := Nat.le_trans (lcs_le_left _ _) (by rw [List.length_take]; omega)
          have b3 : lcs (la.take (I + 1)) (lb.take J) ≤ 1000 := Nat.le_trans (lcs_le_left _ _) (by rw [List.length_take]; omega)
          generalize lcs (la.take I) (lb.take J) = l1 at *
          generalize lcs (la.take I) (lb.take (J + 1)) = l2 at *
          generalize lcs (la.take (I + 1)) (lb.take J) = l3 at *
          have e1 := (bg.cell J).trans q1
          have e2 := (bg.cell (J + 1)).trans q2
          have e3 := (bh.cell J).trans q3
          have e4 := bh.cell (J + 1)
          rw [Array.getElem?_eq_getElem (by have := drow.out.1; omega)] at e4
          generalize ds[J + 1]'(by have := drow.out.1; omega) = old at e4
          have f4 := bh.frozen (J + 1)
          have HREC := Lib.hid hrec
          clear hrec q1 q2 q3 hr hr'
          have hq := rec_eql
          have x1 : (0 : Int) ≤ (I : Int) := by omega
          have x2 : (I : Int) < (n : Int) := by omega
          have x3 : (0 : Int) ≤ (J : Int) := by omega
          have x4 : (J : Int) < (m : Int) := by omega
          have x5 : (0 : Int) ≤ (J : Int) + 1 := by omega
          have x6 : (J : Int) + 1 < (m : Int) + 1 := by omega
          have x7 : (J : Int) < (m : Int) + 1 := by omega
          have fin : ∀ (k : Nat) (v : Int), v = lcs (la.take (I + 1)) (lb.take (J + 1)) → Blk ((wr.setCell ⟨wo.heap.size, J + 1, none⟩ (.int .i64 v)).drewN k) g 3 cs ∧
              Blk ((wr.setCell ⟨wo.heap.size, J + 1, none⟩ (.int .i64 v)).drewN k) wo.heap.size 3 (ds.setIfInBounds (J + 1) (.int .i64 v)) ∧ Hid (CRow la lb m (I + 1) (J + 1) (ds.setIfInBounds (J + 1) (.int .i64 v))) ∧
              Below w.heap.size w ((wr.setCell ⟨wo.heap.size, J + 1, none⟩ (.int .i64 v)).drewN k) := by
            intro k v hv
            exact ⟨(bg.far (by simp; omega) _).drewN _, (bh.set _ _).drewN _, drow.out.step hlJ hv, below_drewN (bel_set (p := ⟨wo.heap.size, J + 1, none⟩) hbel rbel2) _⟩
          have FIN := Lib.hid fin
          clear fin
          cases hrr : recEq r r'
          · have hne := (recEq_false _ _).1 hrr
            rw [if_neg hne] at HREC
            go_wp2_with fail
            go_quiet (fail)
            go_wp2_with fail
            go_quiet (fail)
            go_wp2_with fail
            all_goals
              go_roundw
              case rel =>
                go_light
                have F := FIN.out
                refine ⟨J + 1, _, by omega, by go_num, (F _ _ ?h).1, (F _ _ ?h).2.1, (F 0 _ ?h).2.2.1, (F _ _ ?h).2.2.2⟩
                rw [HREC.out]
                omega
              case measure => go_light; simp [intOf]; omega
          · obtain rfl := (recEq_iff _ _).1 hrr
            rw [if_pos rfl] at HREC
            go_wp2_with fail
            go_quiet (fail)
            go_wp2_with fail
            go_roundw
            case rel =>
              go_light
              have F := FIN.out
              refine ⟨J + 1, _, by omega, by go_num, (F _ _ ?h).1, (F _ _ ?h).2.1, (F 0 _ ?h).2.2.1, (F _ _ ?h).2.2.2⟩
              rw [HREC.out]
              omega
            case measure => go_light; simp [intOf]; omega
        · obtain rfl : J = m := by omega
          go_wp2_with fail
          go_roundw
          case rel =>
            go_light
            exact ⟨I + 1, wo.heap.size, ds, by omega, by go_num, rfl, bh, hbel, drow, rbel2⟩
          case measure => go_light; simp [intOf]; omega
    · have e1 := (bg.cell m).trans (crow.out.2 m (Nat.le_refl _))
      have x7 : (m : Int) < (m : Int) + 1 := by omega
      have x3 : (0 : Int) ≤ (m : Int) := by omega
      go_wp2_with fail
      go_ret
      refine ⟨ret_int ?_, rbel⟩
      rw [List.take_of_length_le (by have := HN.out; omega), List.take_of_length_le (by have := HM.out; omega)]
end Go.Proofs.Ytdfpcnldfibceaa.Diff

/-
  The walks of package diff's table.
-/
import Derived.Test.YtdfpcnldfibceaaRecWalks
import Derived.Test.YtdfpcnldfibceaaDiffPlain
import Derived.Deep.LoopGhost
namespace Go.Proofs.Ytdfpcnldfibceaa.Diff
open Go.RowKit Go.Proofs.Ytdfpcnldfibceaa.Mem Go.Proofs.Ytdfpcnldfibceaa.Recs

theorem at_any (w : World) (gt gc : Nat) (i j : Int) (I J W N : Nat) (x : Int) (cs : Array Value) (hi : i = I) (hj : j = J) (hin : I * W + J < N) (hN : N ≤ 8388608)
    (ht : Blk w gt 194 #[.int .i64 W, .slice (some ⟨gc, 0, none⟩) N N]) (hc : Blk w gc 21 cs) (hx : cs[I * W + J]? = some (.int .i32 x)) :
    Calls Try.prog 89 #[.pointer (some ⟨gt, 0, none⟩), .int .i64 i, .int .i64 j] w fun e w' => e = .returned (.int .i32 x) ∧ ∃ n, w' = w.drewN n := by
  subst hi hj
  have c0 := ht.cell 0
  have c1 := ht.cell 1
  have c2 := hc.cell (I * W + J)
  simp at c0 c1
  rw [hx] at c2
  obtain ⟨P, hP⟩ : ∃ P : Nat, P = I * W := ⟨_, rfl⟩
  rw [← hP] at c2 hin
  have hw : IntKind.i64.wrap ((I : Int) * (W : Int)) = (P : Int) := by
    rw [hP, ← Int.natCast_mul]
    exact IntWalk.i64_in _ (by rw [← hP]; omega)
  have hs : IntKind.i64.wrap ((P : Int) + (J : Int)) = (P : Int) + (J : Int) := IntWalk.i64_in _ (by omega)
  have hp0 : (0 : Int) ≤ (P : Int) + (J : Int) := by omega
  have hp1 : (P : Int) + (J : Int) < (N : Int) := by omega
  have hp2 : ((P : Int) + (J : Int)).toNat = P + J := by omega
  clear hP hx
  go_enter Try.func89, Try.ntmps89
  go_wp2
  go_quiet (fail)
  go_wp2
  go_ret
  exact ⟨rfl, _, rfl⟩

/-- The table as far as it is filled: rows from I on, and of the row ahead of them the columns from J on. -/
def Tab (la lb : List Rec) (n m I J : Nat) (cs : Array Value) : Prop :=
  cs.size = (n + 1) * (m + 1) ∧ ∀ i j, i ≤ n → j ≤ m → (I ≤ i ∨ j = m ∨ (i + 1 = I ∧ J ≤ j)) → cs[i * (m + 1) + j]? = some (.int .i32 (lcs (la.drop i) (lb.drop j)))

theorem idx_inj {m i j i' j' : Nat} (hj : j ≤ m) (hj' : j' ≤ m) (h : i * (m + 1) + j = i' * (m + 1) + j') : i = i' ∧ j = j' := by
  have h1 : (i * (m + 1) + j) / (m + 1) = i := by
    rw [Nat.mul_comm, Nat.mul_add_div (by omega), Nat.div_eq_of_lt (by omega)]; omega
  have h2 : (i' * (m + 1) + j') / (m + 1) = i' := by
    rw [Nat.mul_comm, Nat.mul_add_div (by omega), Nat.div_eq_of_lt (by omega)]; omega
  have e : i = i' := by rw [← h1, ← h2, h]
  subst e
  exact ⟨rfl, by omega⟩
theorem idx_lt {n m i j : Nat} (hi : i ≤ n) (hj : j ≤ m) : i * (m + 1) + j < (n + 1) * (m + 1) := by
  have : i * (m + 1) ≤ n * (m + 1) := Nat.mul_le_mul_right _ hi
  rw [Nat.add_mul]
  omega
theorem Tab.start {la lb : List Rec} {n m : Nat} (hn : la.length = n) (hm : lb.length = m) : Tab la lb n m n m (madeCells #[.int .i32 0] ((n + 1) * (m + 1))) := by
  refine ⟨size_madeCells _ _, fun i j hi hj hd => ?_⟩
  have hlt := idx_lt hi hj
  have hz : lcs (la.drop i) (lb.drop j) = 0 := by
    rcases hd with h | h | h
    · rw [List.drop_of_length_le (by omega), lcs_nil_left]
    · rw [List.drop_of_length_le (l := lb) (by omega), lcs_nil_right]
    · rw [List.drop_of_length_le (l := lb) (by omega), lcs_nil_right]
  rw [hz]
  simp [madeCells, hlt, Nat.mod_one]
theorem Tab.step {la lb : List Rec} {n m i0 j0 : Nat} {cs : Array Value} (h : Tab la lb n m (i0 + 1) (j0 + 1) cs) (_hi : i0 < n) (hj : j0 < m) {v : Int} (hv : v = lcs (la.drop i0) (lb.drop j0)) :
    Tab la lb n m (i0 + 1) j0 (cs.setIfInBounds (i0 * (m + 1) + j0) (.int .i32 v)) := by
  refine ⟨by rw [Array.size_setIfInBounds]; exact h.1, fun i j hi' hj' hd => ?_⟩
  rw [Array.getElem?_setIfInBounds]
  by_cases he : i0 * (m + 1) + j0 = i * (m + 1) + j
  · obtain ⟨rfl, rfl⟩ := idx_inj (by omega) hj' he
    rw [if_pos rfl, if_pos (by rw [h.1]; exact idx_lt hi' hj'), hv]
  · rw [if_neg he]
    refine h.2 i j hi' hj' ?_
    rcases hd with h | h | h
    · exact .inl h
    · exact .inr (.inl h)
    · by_cases hjj : j = j0
      · exact absurd (by rw [hjj, show i = i0 from by omega]) he
      · exact .inr (.inr ⟨h.1, by omega⟩)
theorem Tab.row {la lb : List Rec} {n m i0 : Nat} {cs : Array Value} (h : Tab la lb n m (i0 + 1) 0 cs) : Tab la lb n m i0 m cs := by
  refine ⟨h.1, fun i j hi hj hd => h.2 i j hi hj ?_⟩
  rcases hd with h | h | h
  · by_cases e : i = i0
    · exact .inr (.inr ⟨by omega, by omega⟩)
    · exact .inl (by omega)
  · exact .inr (.inl h)
  · exact .inr (.inl (by omega))

theorem drop_of_get {l : List Rec} {i : Nat} {r : Rec} (h : l[i]? = some r) : l.drop i = r :: l.drop (i + 1) := by
  obtain ⟨h1, h2⟩ := List.getElem?_eq_some_iff.1 h
  rw [List.drop_eq_getElem_cons h1, h2]

theorem mul_i64 {P i W : Nat} (h : P = i * W) (hb : P ≤ 8388608) : IntKind.i64.wrap ((i : Int) * (W : Int)) = (P : Int) := by
  rw [← Int.natCast_mul, ← h]
  exact IntWalk.i64_in _ (by omega)
theorem mul_w64 {P i W : Nat} (h : P = i * W) (hb : P ≤ 8388608) : wrap64 ((i : Int) * (W : Int)) = (P : Int) := by
  rw [← Int.natCast_mul, ← h]
  exact IntWalk.wrap64_in _ ⟨by omega, by omega⟩

theorem info_i32 : (Try.prog.info? 21).map (fun i => (i.zero, i.size, i.bytes)) = some (some (.int .i32 0), 1, 4) := by kernel_rfl
theorem make_i32 (n : Nat) (hn : n ≤ 8388608) (w : World) : (Instr.makeSlice 192 (.int .i64 (n : Int)) (.int .i64 (n : Int))).run Try.prog w =
    .ok (.slice (some ⟨w.heap.size, 0, none⟩) n n) (w.alloc (.cells (madeCells #[.int .i32 0] n) 21)) := by
  obtain ⟨i0, hi, hz0, hz1, hz2⟩ := info_parts info_i32
  have h := run_make (P := Try.prog) w 192 21 i0 (.int .i32 0) Try.underlying192 hi hz0 .i64 .i64 (n : Int) (n : Int) (by omega) (Int.le_refl _) (by rw [hz2]; omega) (by omega)
  simp only [Int.toNat_natCast] at h
  simpa [hz1, Value.cells] using h

def FillPost (la lb : List Rec) (n m : Nat) (w : World) (e : Ending) (w' : World) : Prop :=
  ∃ (gt gc : Nat) (cs : Array Value), e = .returned (.pointer (some ⟨gt, 0, none⟩)) ∧
    Blk w' gt 194 #[.int .i64 ((m + 1 : Nat) : Int), .slice (some ⟨gc, 0, none⟩) ((n + 1) * (m + 1)) ((n + 1) * (m + 1))] ∧ Blk w' gc 21 cs ∧
    (∀ i j, i ≤ n → j ≤ m → cs[i * (m + 1) + j]? = some (.int .i32 (lcs (la.drop i) (lb.drop j)))) ∧ w.heap.size ≤ gt ∧ w.heap.size ≤ gc ∧ Below w.heap.size w w'

set_option maxHeartbeats 400000 in
theorem fill_any (w : World) (A B : Option Addr) (n m c d : Nat) (la lb : List Rec) (hn : la.length = n) (hm : lb.length = m) (hN : n ≤ 65536) (hM : m ≤ 65536) (hP : (n + 1) * (m + 1) ≤ 8388608)
    (ha : Row w w.heap.size A n 4 (recF la)) (hb : Row w w.heap.size B m 4 (recF lb)) :
    Calls Try.prog 87 #[.slice A n c, .slice B m d] w (FillPost la lb n m w) := by
  have T0 := Tab.start hn hm
  have HN := Lib.hid hn
  have HM := Lib.hid hm
  have hmk := make_i32 ((n + 1) * (m + 1)) hP
  obtain ⟨W, hW⟩ : ∃ W : Nat, W = m + 1 := ⟨_, rfl⟩
  obtain ⟨N, hNN⟩ : ∃ N : Nat, N = (n + 1) * (m + 1) := ⟨_, rfl⟩
  rw [← hNN] at hmk hP T0
  have hmul : wrap64 (((n : Int) + 1) * ((m : Int) + 1)) = (N : Int) := by
    have e : ((n : Int) + 1) * ((m : Int) + 1) = (N : Int) := by rw [hNN, Int.natCast_mul]; rfl
    rw [e]
    exact IntWalk.wrap64_in _ ⟨by omega, by omega⟩
  have HW := Lib.hid hW
  have HNN := Lib.hid hNN
  have HT := Lib.hid T0
  clear hn hm hW hNN T0
  go_enter Try.func87, Try.ntmps87
  go_wp2_with fail
  simp only [hmul]
  clear hmul
  go_loopw [6] (fun i wr => ∃ (I : Nat) (x : Int) (cs : Array Value), I ≤ n ∧ i = .int .i64 x ∧ x ≤ (I : Int) - 1 ∧ (I : Int) - 1 ≤ x ∧
      Blk wr (w.heap.size + 1) 194 #[.int .i64 (W : Int), .slice (some ⟨w.heap.size, 0, none⟩) N N] ∧ Blk wr w.heap.size 21 cs ∧ Hid (Tab la lb n m I m cs) ∧ Below w.heap.size w wr)
    (fun i _ => (intOf i + 1).toNat)
  case atStart =>
    refine ⟨n, (n : Int) - 1, _, by omega, rfl, by omega, by omega, ?_, (Blk.made _ _ _).alloc _, HT, by (repeat (first | (with_reducible exact Below.refl _ _) | (with_reducible assumption) | (with_reducible refine Below.drew ?_) | (with_reducible refine below_drewN ?_ _) | ((with_reducible refine bel_set ?_ ?_); (focus (first | (simp; done) | (simp; omega) | omega | (simp at *; omega)))) | (with_reducible refine bel_alloc0 ?_) | (with_reducible refine bel_step0 (by assumption) ?_) | ((with_reducible refine bel_alloc ?_ ?_); (focus (first | (simp; done) | (simp; omega) | omega | (simp at *; omega)))) | ((with_reducible refine bel_step (by assumption) ?_ ?_); (focus (first | (simp; done) | (simp; omega) | omega | (simp at *; omega))))))⟩
    rw [HW.out]
    exact Blk.made_at _ _ _ (by simp)
  case round =>
    obtain ⟨I, x, cs, hI, rfl, hx1, hx2, bt, bc, tab, rbel⟩ := hrel
    by_cases h0 : I = 0
    · subst h0
      go_wp2_with fail
      go_ret
      go_light
      refine ⟨w.heap.size + 1, w.heap.size, cs, rfl, ?_, bc, fun i j hi hj => tab.out.2 i j hi hj (.inl (Nat.zero_le _)), by omega, by omega, rbel⟩
      rw [← HNN.out, ← HW.out]
      exact bt
    · obtain ⟨i0, hi0⟩ : ∃ i0, I = i0 + 1 := ⟨I - 1, by omega⟩
      subst hi0
      obtain rfl : x = (i0 : Int) := by omega
      clear hx1 hx2 h0
      go_wp2_with fail
      obtain ⟨wo, rfl⟩ : ∃ wo : World, wo = wr := ⟨_, rfl⟩
      go_loopw [7] (fun j wr => ∃ (J : Nat) (x : Int) (cs : Array Value), J ≤ m ∧ j = .int .i64 x ∧ x ≤ (J : Int) - 1 ∧ (J : Int) - 1 ≤ x ∧
          Blk wr (w.heap.size + 1) 194 #[.int .i64 (W : Int), .slice (some ⟨w.heap.size, 0, none⟩) N N] ∧ Blk wr w.heap.size 21 cs ∧ Hid (Tab la lb n m (i0 + 1) J cs) ∧ Below w.heap.size w wr)
        (fun j _ => (intOf j + 1).toNat)
      case atStart => exact ⟨m, (m : Int) - 1, cs, by omega, rfl, by omega, by omega, bt, bc, tab, rbel⟩
      case round =>
        clear bt bc tab rbel
        obtain ⟨J, x, cs, hJ, rfl, hx1, hx2, bt, bc, tab, rbel⟩ := hrel
        by_cases h0 : J = 0
        · subst h0
          go_wp2_with fail
          go_roundw
          case rel =>
            go_light
            exact ⟨i0, _, cs, by omega, rfl, by omega, by omega, bt, bc, tab.out.row, rbel⟩
          case measure => go_light; simp [intOf]
        · obtain ⟨j0, hj0⟩ : ∃ j0, J = j0 + 1 := ⟨J - 1, by omega⟩
          subst hj0
          obtain rfl : x = (j0 : Int) := by omega
          clear hx1 hx2 h0
          obtain ⟨b, off, r, rfl, hbb, hr, c0, c1, c2, c3⟩ := Row.rec (ha.below rbel) HN.out (show i0 < n by omega)
          obtain ⟨b', off', r', rfl, hbb', hr', d0, d1, d2, d3⟩ := Row.rec (hb.below rbel) HM.out (show j0 < m by omega)
          have hrec : lcs (la.drop i0) (lb.drop j0) = if r = r' then lcs (la.drop (i0 + 1)) (lb.drop (j0 + 1)) + 1 else max (lcs (la.drop (i0 + 1)) (lb.drop j0)) (lcs (la.drop i0) (lb.drop (j0 + 1))) := by
            rw [drop_of_get hr, drop_of_get hr', lcs_cons]
          have q1 := tab.out.2 (i0 + 1) j0 (by omega) (by omega) (.inl (Nat.le_refl _))
          have q2 := tab.out.2 i0 (j0 + 1) (by omega) (by omega) (.inr (.inr ⟨rfl, Nat.le_refl _⟩))
          have q3 := tab.out.2 (i0 + 1) (j0 + 1) (by omega) (by omega) (.inl (Nat.le_refl _))
          have b1 : lcs (la.drop (i0 + 1)) (lb.drop j0) ≤ 65536 := Nat.le_trans (lcs_le_left _ _) (by rw [List.length_drop, HN.out]; omega)
          have b2 : lcs (la.drop i0) (lb.drop (j0 + 1)) ≤ 65536 := Nat.le_trans (lcs_le_left _ _) (by rw [List.length_drop, HN.out]; omega)
          have b3 : lcs (la.drop (i0 + 1)) (lb.drop (j0 + 1)) ≤ 65536 := Nat.le_trans (lcs_le_left _ _) (by rw [List.length_drop, HN.out]; omega)
          generalize lcs (la.drop (i0 + 1)) (lb.drop j0) = l1 at hrec q1 b1
          generalize lcs (la.drop i0) (lb.drop (j0 + 1)) = l2 at hrec q2 b2
          generalize lcs (la.drop (i0 + 1)) (lb.drop (j0 + 1)) = l3 at hrec q3 b3
          have i1 : (i0 + 1) * W + j0 < N := by rw [HW.out, HNN.out]; exact idx_lt (by omega) (by omega)
          have i2 : i0 * W + (j0 + 1) < N := by rw [HW.out, HNN.out]; exact idx_lt (by omega) (by omega)
          have i3 : (i0 + 1) * W + (j0 + 1) < N := by rw [HW.out, HNN.out]; exact idx_lt (by omega) (by omega)
          have i4 : i0 * W + j0 < N := by rw [HW.out, HNN.out]; exact idx_lt (by omega) (by omega)
          rw [← HW.out] at q1 q2 q3
          have C1 := Lib.hid (fun wx (h1 : Blk wx _ _ _) h2 => at_any wx (w.heap.size + 1) w.heap.size ((i0 : Int) + 1) (j0 : Int) (i0 + 1) j0 W N l1 cs (by omega) rfl i1 hP h1 h2 q1)
          have C2 := Lib.hid (fun wx (h1 : Blk wx _ _ _) h2 => at_any wx (w.heap.size + 1) w.heap.size (i0 : Int) ((j0 : Int) + 1) i0 (j0 + 1) W N l2 cs rfl (by omega) i2 hP h1 h2 q2)
          have C3 := Lib.hid (fun wx (h1 : Blk wx _ _ _) h2 => at_any wx (w.heap.size + 1) w.heap.size ((i0 : Int) + 1) ((j0 : Int) + 1) (i0 + 1) (j0 + 1) W N l3 cs (by omega) (by omega) i3 hP h1 h2 q3)
          have HREC := Lib.hid hrec
          have HR := Lib.hid hr
          have HR' := Lib.hid hr'
          clear hrec q1 q2 q3 hr hr' i1 i2 i3
          have hq := rec_eql
          have x1 : (0 : Int) ≤ (i0 : Int) := by omega
          have x2 : (i0 : Int) < (n : Int) := by omega
          have x3 : (0 : Int) ≤ (j0 : Int) := by omega
          have x4 : (j0 : Int) < (m : Int) := by omega
          obtain ⟨P, hP0⟩ : ∃ P : Nat, P = i0 * W := ⟨_, rfl⟩
          rw [← hP0] at i4
          have hp0 : (0 : Int) ≤ (P : Int) + (j0 : Int) := by omega
          have hp1 : (P : Int) + (j0 : Int) < (N : Int) := by omega
          have hp2 : Hid (((P : Int) + (j0 : Int)).toNat = P + j0) := by show _ = _; omega
          have hpb : P ≤ 8388608 := by omega
          have hw : Hid (IntKind.i64.wrap ((i0 : Int) * (W : Int)) = (P : Int)) := mul_i64 hP0 hpb
          have hw6 : Hid (wrap64 ((i0 : Int) * (W : Int)) = (P : Int)) := mul_w64 hP0 hpb
          have hs : Hid (IntKind.i64.wrap ((P : Int) + (j0 : Int)) = (P : Int) + (j0 : Int)) := IntWalk.i64_in _ (by omega)
          have HP := Lib.hid hP0
          have csz : P + j0 < cs.size := by rw [tab.out.1, ← HNN.out]; exact i4
          have cc := bc.cell (P + j0)
          rw [Array.getElem?_eq_getElem csz] at cc
          generalize cs[P + j0] = old at cc
          have cf := bc.frozen (P + j0)
          have ct0 := bt.cell 0
          have ct1 := bt.cell 1
          simp at ct0 ct1
          clear hP0 csz
          have fin : ∀ (k : Nat) (v : Int), v = lcs (la.drop i0) (lb.drop j0) → Blk ((wr.setCell ⟨w.heap.size, P + j0, none⟩ (.int .i32 v)).drewN k) (w.heap.size + 1) 194 #[.int .i64 (W : Int), .slice (some ⟨w.heap.size, 0, none⟩) N N] ∧
              Blk ((wr.setCell ⟨w.heap.size, P + j0, none⟩ (.int .i32 v)).drewN k) w.heap.size 21 (cs.setIfInBounds (P + j0) (.int .i32 v)) ∧ Hid (Tab la lb n m (i0 + 1) j0 (cs.setIfInBounds (P + j0) (.int .i32 v))) ∧
              Below w.heap.size w ((wr.setCell ⟨w.heap.size, P + j0, none⟩ (.int .i32 v)).drewN k) := by
            intro k v hv
            refine ⟨(bt.far (by simp) _).drewN _, (bc.set _ _).drewN _, ?_, below_drewN (bel_set (p := ⟨w.heap.size, P + j0, none⟩) (Nat.le_refl _) rbel) _⟩
            have := tab.out.step (by omega) (by omega) hv
            rw [← HW.out, ← HP.out] at this
            exact this
          have FIN := Lib.hid fin
          clear fin
          go_wp2_with fail
          refine (C1.out _ bt bc).mono ?_
          rintro e w1 ⟨rfl, n1, rfl⟩
          go_wp2_with fail
          refine (C2.out _ (bt.drewN _) (bc.drewN _)).mono ?_
          rintro e w1 ⟨rfl, n2, rfl⟩
          cases hrr : recEq r r'
          · have hne := (recEq_false _ _).1 hrr
            rw [if_neg hne] at HREC
            go_wp2_with fail
            all_goals
              go_quiet (fail)
              go_wp2_with fail
              have hwx := hw.out
              have hwy := hw6.out
              have hsx := hs.out
              have hpx := hp2.out
              go_region
              all_goals clear hwx hwy hsx hpx
              all_goals go_wp2_with fail
              all_goals
                go_roundw
                case rel =>
                  go_light
                  have F := FIN.out
                  refine ⟨j0, _, _, by omega, rfl, by omega, by omega, (F _ _ ?h).1, (F _ _ ?h).2.1, (F 0 _ ?h).2.2.1, (F _ _ ?h).2.2.2⟩
                  rw [HREC.out]
                  omega
                case measure => go_light; simp [intOf]
          · obtain rfl := (recEq_iff _ _).1 hrr
            rw [if_pos rfl] at HREC
            go_wp2_with fail
            all_goals
              go_quiet (fail)
              go_wp2_with fail
              refine (C3.out _ (bt.drewN _) (bc.drewN _)).mono ?_
              rintro e w1 ⟨rfl, n3, rfl⟩
              go_wp2_with fail
              have hwx := hw.out
              have hwy := hw6.out
              have hsx := hs.out
              have hpx := hp2.out
              go_region
              all_goals clear hwx hwy hsx hpx
              all_goals go_wp2_with fail
              all_goals
                go_roundw
                case rel =>
                  go_light
                  have F := FIN.out
                  refine ⟨j0, _, _, by omega, rfl, by omega, by omega, (F _ _ ?h).1, (F _ _ ?h).2.1, (F 0 _ ?h).2.2.1, (F _ _ ?h).2.2.2⟩
                  rw [HREC.out]
                  omega
                case measure => go_light; simp [intOf]
end Go.Proofs.Ytdfpcnldfibceaa.Diff

/-
  The walk of the statement DiffLimits.
-/
import Derived.Test.YtdfpcnldfibceaaDiffAlive
import Derived.Deep.RegionWith
namespace Go.Proofs.Ytdfpcnldfibceaa.Diff
open Go.RowKit Go.Proofs.Ytdfpcnldfibceaa.Mem Go.Proofs.Ytdfpcnldfibceaa.Recs

theorem diff_limit (w : World) (A B : Option Addr) (n m c d : Nat) (hN : n ≤ 65535) (h : 4000000 < n * m) :
    Calls Try.prog 31 #[.slice A n c, .slice B m d] w fun e w' => e = .returned (.tuple #[.slice none 0 0, .int .i64 6]) ∧ w' = w := by
  have h0 : 0 < n := by
    rcases Nat.eq_zero_or_pos n with h0 | h0
    · subst h0; omega
    · exact h0
  have hp : decide (0 < n) = true := by simp; omega
  have hnz : ¬ n = 0 := by omega
  have hnz2 : ((n : Int) == 0) = false := by simp; omega
  have hnz3 : ¬ (n : Int) = 0 := by omega
  have hq : decide (4000000 / (n : Int) < (m : Int)) = true := by
    rw [decide_eq_true_eq]
    apply Int.ediv_lt_of_lt_mul (by omega)
    rw [Int.mul_comm, ← Int.natCast_mul]
    omega
  clear h h0
  go_enter Try.func31, Try.ntmps31
  go_wp2_with fail
  go_ret2
  exact ⟨rfl, rfl⟩

theorem make_rec (n : Nat) (hn : n ≤ 65535) (w : World) : (Instr.makeSlice 22 (.int .i64 (n : Int)) (.int .i64 (n : Int))).run Try.prog w =
    .ok (.slice (some ⟨w.heap.size, 0, none⟩) n n) (w.alloc (.cells (madeCells #[.int .u64 0, .int .u8 0, .string ByteArray.empty, .string ByteArray.empty] (n * 4)) 91)) := by
  obtain ⟨i0, hi, hz0, hz1, hz2⟩ := info_parts info_rec
  have h := run_make (P := Try.prog) w 22 91 i0 _ Try.underlying22 hi hz0 .i64 .i64 (n : Int) (n : Int) (by omega) (Int.le_refl _) (by rw [hz2]; omega) (by omega)
  simp only [Int.toNat_natCast] at h
  simpa [hz1, Value.cells] using h

set_option maxHeartbeats 400000 in
theorem law_limits (w : World) (n m : Nat) (hN : n ≤ 65535) (hM : m ≤ 65535) :
    Calls Try.prog 4 #[.int .u16 n, .int .u16 m] w fun e w' => e = .returned (.bool true) ∧ Below w.heap.size w w' := by
  have hmk1 := make_rec n hN
  have hmk2 := make_rec m hM
  obtain ⟨P, hP⟩ : ∃ P : Nat, P = n * m := ⟨_, rfl⟩
  have hPb : P ≤ 4294836225 := by rw [hP]; exact Nat.le_trans (Nat.mul_le_mul hN hM) (by omega)
  have hmul : ((n : Int) * (m : Int)) = (P : Int) := by rw [hP, Int.natCast_mul]
  have HP := Lib.hid hP
  clear hP
  by_cases hc : P ≤ 4000000
  · go_enter Try.func4, Try.ntmps4
    go_wp2_with fail
    refine (alive36 _).mono ?_
    rintro e w1 ⟨rfl, hb1⟩
    go_wp2_with fail
    go_ret
    exact ⟨rfl, hb1⟩
  · have hlim := fun wx A B c d => diff_limit wx A B n m c d hN (by rw [← HP.out]; omega)
    have HL := Lib.hid hlim
    clear hlim
    go_enter Try.func4, Try.ntmps4
    go_wp2_with fail
    refine (alive36 _).mono ?_
    rintro e w1 ⟨rfl, hb1⟩
    go_wp2_with fail
    go_region_with (go_at_call 31; refine (HL.out _ _ _ _ _).mono ?_; rintro e w' ⟨rfl, rfl⟩)
    all_goals
      go_wp2_with fail
      go_ret
      refine ⟨rfl, ?_⟩
      (repeat (first | (with_reducible exact Below.refl _ _) | (with_reducible assumption) | (with_reducible refine Below.drew ?_) | (with_reducible refine below_drewN ?_ _) | ((with_reducible refine bel_set ?_ ?_); (focus (first | (simp; done) | (simp; omega) | omega | (simp at *; omega)))) | (with_reducible refine bel_alloc0 ?_) | (with_reducible refine bel_step0 (by assumption) ?_) | ((with_reducible refine bel_alloc ?_ ?_); (focus (first | (simp; done) | (simp; omega) | omega | (simp at *; omega)))) | ((with_reducible refine bel_step (by assumption) ?_ ?_); (focus (first | (simp; done) | (simp; omega) | omega | (simp at *; omega))))))
end Go.Proofs.Ytdfpcnldfibceaa.Diff

/-
  The walk of the statement ToksCounts.
-/
import Derived.Test.YtdfpcnldfibceaaToksCount
import Derived.Test.YtdfpcnldfibceaaToksLaws
import Derived.LoopN
namespace Go.Proofs.Ytdfpcnldfibceaa.Toks
open Go.RowKit Go.Proofs.Ytdfpcnldfibceaa.Mem

theorem symsOf_length (ts : List Tk) : (symsOf ts).length = 265 := by unfold symsOf; rw [bump_length]; exact (cnts_length ts).1
theorem farsOf_length (ts : List Tk) : (farsOf ts).length = 12 := (cnts_length ts).2

theorem law_counts_long (w : World) (A : Option Addr) (n c : Nat) (hm : (2000 : Int) < (n : Int)) (_hm2 : (n : Int) ≤ 9223372036854775807) :
    Calls Try.prog 7 #[.slice A n c] w fun e w' => e = .returned (.bool true) ∧ Below w.heap.size w w' := by
  go_enter Try.func7, Try.ntmps7
  go_wp2_with (go_at_call 34; refine (alive11 _).mono ?_; rintro e w1 ⟨rfl, hb1⟩)
  go_ret
  exact ⟨rfl, hb1⟩

set_option maxRecDepth 100000 in
set_option maxHeartbeats 400000 in
theorem law_counts (w : World) (A : Option Addr) (n c : Nat) (ts : List Tk) (hn : ts.length = n) (hm : n ≤ 2000) (hlit : ∀ t ∈ ts, 0 ≤ t.lit ∧ t.lit ≤ 255)
    (hrow : Row w w.heap.size A n 3 (tokF ts)) :
    Calls Try.prog 7 #[.slice A n c] w fun e w' => e = .returned (.bool true) ∧ Below w.heap.size w w' := by
  have hm1 : ¬ (2000 : Int) < (n : Int) := by omega
  go_enter Try.func7, Try.ntmps7
  have HN := Lib.hid hn
  clear hn
  go_wp2_with fail
  refine (alive11 _).mono ?_
  rintro e w1 ⟨rfl, hb1⟩
  have row1 := (hrow.below hb1).mono hb1.size
  go_wp2_with fail
  refine (toks_count w1 A n c ts HN.out (by omega) hlit row1).mono ?_
  rintro e w2 ⟨hb2, h2⟩
  have row2 := (row1.below hb2).mono hb2.size
  have bel2 : Below w.heap.size w w2 := by (repeat (first | (with_reducible exact Below.refl _ _) | (with_reducible assumption) | (with_reducible refine Below.drew ?_) | (with_reducible refine below_drewN ?_ _) | ((with_reducible refine bel_set ?_ ?_); (focus (first | (simp; done) | (simp; omega) | omega | (simp at *; omega)))) | (with_reducible refine bel_alloc0 ?_) | (with_reducible refine bel_step0 (by assumption) ?_) | ((with_reducible refine bel_alloc ?_ ?_); (focus (first | (simp; done) | (simp; omega) | omega | (simp at *; omega)))) | ((with_reducible refine bel_step (by assumption) ?_ ?_); (focus (first | (simp; done) | (simp; omega) | omega | (simp at *; omega))))))
  rcases h2 with ⟨hok, gs, gf, rfl, rs, rf, hgs, hgf⟩ | ⟨hok, rfl⟩
  · have HOK := Lib.hid hok
    clear hok
    go_wp2_with fail
    refine (ref_count w2 A n c ts HN.out (by omega) hlit row2).mono ?_
    rintro e w3 ⟨hb3, h3⟩
    have bel3 : Below w.heap.size w w3 := by (repeat (first | (with_reducible exact Below.refl _ _) | (with_reducible assumption) | (with_reducible refine Below.drew ?_) | (with_reducible refine below_drewN ?_ _) | ((with_reducible refine bel_set ?_ ?_); (focus (first | (simp; done) | (simp; omega) | omega | (simp at *; omega)))) | (with_reducible refine bel_alloc0 ?_) | (with_reducible refine bel_step0 (by assumption) ?_) | ((with_reducible refine bel_alloc ?_ ?_); (focus (first | (simp; done) | (simp; omega) | omega | (simp at *; omega)))) | ((with_reducible refine bel_step (by assumption) ?_ ?_); (focus (first | (simp; done) | (simp; omega) | omega | (simp at *; omega))))))
    rcases h3 with ⟨hok3, hs, hf, rfl, ss, sf, hhs, hhf⟩ | ⟨hok3, rfl⟩
    rotate_left
    · rw [HOK.out] at hok3; cases hok3
    clear hok3
    have rs3 := rs.step hb3
    have rf3 := rf.step hb3
    go_wp2_with fail
    go_loopw [9] (fun i wr => ∃ k : Nat, k ≤ 265 ∧ i = .int .i64 k ∧ Blk wr gs 48 (ints .u32 (symsOf ts)) ∧ Blk wr hs 48 (ints .u32 (symsOf ts)) ∧
        Blk wr gf 48 (ints .u32 (farsOf ts)) ∧ Blk wr hf 48 (ints .u32 (farsOf ts)) ∧ Below w.heap.size w wr)
      (fun i _ => 265 - (intOf i).toNat)
    case atStart => exact ⟨0, by omega, rfl, rs3, ss, rf3, sf, bel3⟩
    case round =>
      obtain ⟨k, hk, rfl, r1, r2, r3, r4, rbel⟩ := hrel
      by_cases hlt : k < 265
      · have c1 := r1.cell k
        have c2 := r2.cell k
        rw [ints_get _ _ _ (by rw [symsOf_length]; exact hlt)] at c1 c2
        generalize (symsOf ts).getD k 0 = x at c1 c2
        have i1 : (0 : Int) ≤ (k : Int) := by omega
        have i2 : (k : Int) < 265 := by omega
        go_wp2_with fail
        go_quiet (fail)
        go_wp2_with fail
        go_roundw
        case rel => go_light; exact ⟨k + 1, by omega, by go_num, r1.drewN _, r2.drewN _, r3.drewN _, r4.drewN _, below_drewN rbel _⟩
        case measure => go_light; simp [intOf]; omega
      · obtain rfl : k = 265 := by omega
        go_wp2_with fail
        obtain ⟨wo, rfl⟩ : ∃ wo : World, wo = wr := ⟨_, rfl⟩
        go_loopw [10] (fun i wr => ∃ k : Nat, k ≤ 12 ∧ i = .int .i64 k ∧ Blk wr gs 48 (ints .u32 (symsOf ts)) ∧ Blk wr hs 48 (ints .u32 (symsOf ts)) ∧
            Blk wr gf 48 (ints .u32 (farsOf ts)) ∧ Blk wr hf 48 (ints .u32 (farsOf ts)) ∧ Below w.heap.size w wr)
          (fun i _ => 12 - (intOf i).toNat)
        case atStart => exact ⟨0, by omega, rfl, r1, r2, r3, r4, rbel⟩
        case round =>
          obtain ⟨k, hk, rfl, r1, r2, r3, r4, rbel⟩ := hrel
          by_cases hlt : k < 12
          · have c1 := r3.cell k
            have c2 := r4.cell k
            rw [ints_get _ _ _ (by rw [farsOf_length]; exact hlt)] at c1 c2
            generalize (farsOf ts).getD k 0 = x at c1 c2
            have i1 : (0 : Int) ≤ (k : Int) := by omega
            have i2 : (k : Int) < 12 := by omega
            go_wp2_with fail
            go_quiet (fail)
            go_wp2_with fail
            go_roundw
            case rel => go_light; exact ⟨k + 1, by omega, by go_num, r1.drewN _, r2.drewN _, r3.drewN _, r4.drewN _, below_drewN rbel _⟩
            case measure => go_light; simp [intOf]; omega
          · obtain rfl : k = 12 := by omega
            go_wp2_with fail

            go_ret
            exact ⟨rfl, rbel⟩
  · have HOK := Lib.hid hok
    clear hok
    go_wp2_with fail
    refine (ref_count w2 A n c ts HN.out (by omega) hlit row2).mono ?_
    rintro e w3 ⟨hb3, h3⟩
    have bel3 : Below w.heap.size w w3 := by (repeat (first | (with_reducible exact Below.refl _ _) | (with_reducible assumption) | (with_reducible refine Below.drew ?_) | (with_reducible refine below_drewN ?_ _) | ((with_reducible refine bel_set ?_ ?_); (focus (first | (simp; done) | (simp; omega) | omega | (simp at *; omega)))) | (with_reducible refine bel_alloc0 ?_) | (with_reducible refine bel_step0 (by assumption) ?_) | ((with_reducible refine bel_alloc ?_ ?_); (focus (first | (simp; done) | (simp; omega) | omega | (simp at *; omega)))) | ((with_reducible refine bel_step (by assumption) ?_ ?_); (focus (first | (simp; done) | (simp; omega) | omega | (simp at *; omega))))))
    rcases h3 with ⟨hok3, hs, hf, rfl, ss, sf, hhs, hhf⟩ | ⟨hok3, rfl⟩
    · rw [HOK.out] at hok3; cases hok3
    clear hok3
    go_wp2_with fail
    refine wp_loop_rounds 1 ?_
    rw [rounds_succ]
    go_wp2_with fail
    refine wp_loop_rounds 1 ?_
    rw [rounds_succ]
    go_wp2_with fail
    go_ret
    exact ⟨rfl, bel3⟩
end Go.Proofs.Ytdfpcnldfibceaa.Toks

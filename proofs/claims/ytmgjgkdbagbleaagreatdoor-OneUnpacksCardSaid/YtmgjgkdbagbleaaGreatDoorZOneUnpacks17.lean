/-
  The walks of package toks' Split and Join and of the reference's, with what they call.
-/
import Derived.Test.YtmgjgkdbagbleaaGreatDoorZOneUnpacks16
import Derived.Test.YtmgjgkdbagbleaaGreatDoorZOneUnpacks1
import Derived.Test.YtmgjgkdbagbleaaGreatDoorProg
import Derived.WalkKit
import Derived.ProofKit
import Derived.BigQuiet
import Derived.BigGuardPart
import Derived.Deep.QuietTactic
import Derived.Lib.Hide
import Derived.Deep.Light
import Derived.Shelf.Small.Bits
import Derived.Shelf.Strconv.Itoa0
import Derived.Shelf.Sort.Plain
import Derived.Shelf.Bits.Mul64
import Derived.Shelf.Slices.CompactS
import Derived.Shelf.Slices.Cells
import Derived.Shelf.Slices.In.SortNone
namespace Go.Proofs.YtmgjgkdbagbleaaGreatDoor.Toks
open Go.RowKit Go.Proofs.YtmgjgkdbagbleaaGreatDoor.Mem
theorem lz_may (t : Tk) (w : World) :
    Calls Tryz.prog 304 #[t.val] w fun e w' => e = .returned (.bool (mayB t.lit t.len t.dist)) ∧ Below w.heap.size w w' := by
  obtain ⟨lit, len, dist⟩ := t
  unfold Tk.val
  go_enter Tryz.func304, Tryz.ntmps304
  go_wp2
  all_goals
    go_ret
    refine ⟨ret_bool ?_, (Below.refl _ _).alloc (Nat.le_refl _) _⟩
    go_light
    first | (simp_all [mayB]; done) | (simp_all [mayB]; omega) | (subst_vars; simp_all [mayB]; rw [Bool.eq_iff_iff]; simp)
theorem ref_may (t : Tk) (w : World) :
    Calls Tryz.prog 201 #[t.val] w fun e w' => e = .returned (.bool (mayB t.lit t.len t.dist)) ∧ Below w.heap.size w w' := by
  obtain ⟨lit, len, dist⟩ := t
  unfold Tk.val
  go_enter Tryz.func201, Tryz.ntmps201
  go_wp2
  all_goals
    go_ret
    refine ⟨ret_bool ?_, (Below.refl _ _).alloc (Nat.le_refl _) _⟩
    go_light
    first | (simp_all [mayB]; done) | (simp_all [mayB]; omega) | (subst_vars; simp_all [mayB]; rw [Bool.eq_iff_iff]; simp)
theorem ret_two {a b c d : Int} (h1 : a = b) (h2 : c = d) : Ending.returned (.tuple #[.int .i64 a, .int .i64 c]) = .returned (.tuple #[.int .i64 b, .int .i64 d]) := by rw [h1, h2]
theorem ret_i64 {a b : Int} (h1 : a = b) : Ending.returned (.int .i64 a) = .returned (.int .i64 b) := by rw [h1]
theorem ref_class (v : Int) (w : World) (h1 : 1 ≤ v) (h2 : v ≤ 4611686018427387903) :
    Calls Tryz.prog 274 #[.int .i64 v] w fun e w' => e = .returned (.tuple #[.int .i64 (lg v), .int .i64 (v - pw (lg v))]) ∧ w = w' := by
  go_enter Tryz.func274, Tryz.ntmps274
  go_wp2
  go_loop [4, 5] (fun b p => ∃ (k : Nat) (P : Int), 0 ≤ (k : Int) ∧ (k : Int) < P ∧ P ≤ v ∧ 1 ≤ P ∧ P = pw k ∧ b = .int .i64 k ∧ p = .int .i64 P) (fun _ p => (v - intOf p).toNat)
  case atStart => exact ⟨0, 1, by omega, by omega, by omega, by omega, by decide, rfl, rfl⟩
  case round =>
    obtain ⟨k, P, hk, hkP, hPv, hP1, hP, rfl, rfl⟩ := hrel
    have HP := Lib.hid hP
    clear hP
    by_cases hlt : 2 * P ≤ v
    · go_wp2
      go_round
      case rel => exact ⟨k + 1, 2 * P, by omega, by omega, by omega, by omega, by rw [HP.out, ← pw_succ _ hk]; rfl, by go_num, rfl⟩
      case measure => simp [intOf]; omega
    · go_wp2
      go_ret2
      go_light
      have e : lg v = k := lg_unique v k hk (by rw [← HP.out]; omega) (by rw [← HP.out]; omega)
      exact ⟨ret_two e.symm (by rw [e, ← HP.out]), rfl⟩
theorem ref_power (b : Int) (w : World) (h1 : 0 ≤ b) (h2 : b ≤ 60) :
    Calls Tryz.prog 247 #[.int .i64 b] w fun e w' => e = .returned (.int .i64 (pw b)) ∧ w = w' := by
  go_enter Tryz.func247, Tryz.ntmps247
  go_wp2
  go_loop [3, 4] (fun p i => ∃ (k : Nat) (P : Int), (k : Int) ≤ b ∧ 1 ≤ P ∧ P ≤ 1152921504606846976 ∧ P = pw k ∧ i = .int .i64 k ∧ p = .int .i64 P) (fun _ i => (b - intOf i).toNat)
  case atStart => exact ⟨0, 1, by omega, by omega, by omega, by decide, rfl, rfl⟩
  case round =>
    obtain ⟨k, P, hk, hP1, hP2, hP, rfl, rfl⟩ := hrel
    have HP := Lib.hid hP
    clear hP
    by_cases hlt : (k : Int) < b
    · go_wp2
      go_round
      case rel =>
        have hs := pw_succ k (by omega)
        have hm := pw_mono (k + 1) 60 (by omega)
        rw [show pw 60 = 1152921504606846976 from by decide] at hm
        exact ⟨k + 1, 2 * P, by omega, by omega, by rw [HP.out]; omega, by rw [HP.out, ← hs]; rfl, by go_num, rfl⟩
      case measure => simp [intOf]; omega
    · go_wp2
      go_ret
      go_light
      exact ⟨ret_i64 (by rw [HP.out, show (k : Int) = b from by omega]), rfl⟩
theorem pw_wrap (b : Int) (h2 : b ≤ 60) : wrap64 (2 ^ b.toNat) = pw b ∧ pw b ≤ 1152921504606846976 := by
  have hm := pw_mono b 60 h2
  rw [show pw 60 = 1152921504606846976 from by decide] at hm
  have hp := pw_pos b
  have e : (2 : Int) ^ b.toNat = pw b := by unfold pw; simp
  rw [e]
  exact ⟨IntWalk.wrap64_in _ ⟨by omega, by omega⟩, hm⟩
theorem toks_fits (x b : Int) (w : World) (h1 : 0 ≤ b) (h2 : b ≤ 60) :
    Calls Tryz.prog 343 #[.int .i64 x, .int .i64 b] w fun e w' => e = .returned (.bool (decide (0 ≤ x ∧ x < pw b))) ∧ w = w' := by
  obtain ⟨hw, _⟩ := pw_wrap b h2
  have HW := Lib.hid hw
  clear hw
  go_enter Tryz.func343, Tryz.ntmps343
  go_wp2
  all_goals
    go_ret
    go_light
    refine ⟨ret_bool ?_, rfl⟩
    first | (rw [HW.out]; simp; omega) | (simp; omega)
theorem Pc.val_mk (a b c d : Int) : Pc.val ⟨a, b, c, d⟩ = .agg #[.int .i64 a, .int .i64 b, .int .i64 c, .int .i64 d] := rfl
theorem Tk.val_mk (a b c : Int) : Tk.val ⟨a, b, c⟩ = .agg #[.int .u8 a, .int .i64 b, .int .i64 c] := rfl
end Go.Proofs.YtmgjgkdbagbleaaGreatDoor.Toks

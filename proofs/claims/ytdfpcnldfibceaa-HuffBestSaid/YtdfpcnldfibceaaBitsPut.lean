/-
  The walk of bits' Writer.Put: a number's bits, the highest first.
-/
import Derived.Test.YtdfpcnldfibceaaBitsAdd
import Derived.Test.YtdfpcnldfibceaaPackPlain
import Derived.Deep.RegionHeld3
import Derived.BigGuardPart
import Derived.Laws.Bits64b
namespace Go.Proofs.Ytdfpcnldfibceaa.Huff
open Go.RowKit Go.Proofs.Ytdfpcnldfibceaa.Mem Go.Proofs.Ytdfpcnldfibceaa.Canon Go.Proofs.Ytdfpcnldfibceaa.Own

theorem and_one (y : Nat) (hy : y < 18446744073709551616) : bits .and .u64 (y : Int) 1 = ((y % 2 : Nat) : Int) := by
  have h := bits_and_u64_nat y 1 hy (by omega)
  rw [Nat.and_one_is_mod] at h
  exact h

set_option maxRecDepth 100000 in
theorem put_any (K : Nat → Prop) (w : World) (g base : Nat) (t : TypeId) (rest : List Value) (v : Value) (bs : List Bool) (x n : Nat) (hx : x < 2 ^ n) (hn : n ≤ 64) (hle : bs.length + n ≤ 700000) (hW : Wr K w base g t rest bs v) :
    Calls Try.prog 112 #[.pointer (some ⟨g, 0, none⟩), .int .u64 (x : Nat), .int .i64 (n : Nat)] w fun e w' => e = .returned (.int .i64 0) ∧ ∃ v', Wr K w' base g t rest (bs ++ msb x n n) v' ∧ Kept K w w' := by
  have hx64 : x < 18446744073709551616 := Nat.lt_of_lt_of_le hx (by have : 2 ^ n ≤ 2 ^ 64 := Nat.pow_le_pow_right (by omega) hn; omega)
  have HW := Lib.hid hW
  have HLE := Lib.hid hle
  have HX := Lib.hid hx
  have hz : ((x : Int) / 2 ^ n != 0) = false := by
    have e : ((x : Int) / 2 ^ n) = ((x / 2 ^ n : Nat) : Int) := by simp
    rw [e, Nat.div_eq_of_lt hx]
    rfl
  have hW0 : Wr K w base g t rest (bs ++ msb x n (n - n)) v := by rw [Nat.sub_self, msb_zero, List.append_nil]; exact hW
  have HW0 := Lib.hid hW0
  clear hW hle hx hW0
  go_enter Try.func112, Try.ntmps112
  go_upto_region 1 with fail
  go_cut [27] (fun s wx => s = .bool false ∧ w = wx)
  case first =>
    go_wp2_with fail
    all_goals
      go_meet
      case rel => exact ⟨rfl, rfl⟩
  case rest =>
    obtain ⟨rfl, rfl⟩ := hcut
    clear hz
    go_wp2_with fail
    go_loopw [7] (fun i wr => ∃ (j : Nat) (v' : Value), j ≤ n ∧ i = .int .i64 ((j : Int) - 1) ∧ Hid (Wr K wr base g t rest (bs ++ msb x n (n - j)) v') ∧ Kept K w wr) (fun i _ => (intOf i + 1).toNat)
    case atStart => exact ⟨n, v, by omega, by go_num, HW0.out, Kept.refl _ _⟩
    case round =>
      obtain ⟨j, v', hj, rfl, hWr, hkp⟩ := hrel
      cases j with
      | zero =>
        have e : (((0 : Nat) : Int) - 1) = -1 := by omega
        rw [e]
        clear e
        go_wp2_with fail
        go_ret
        exact ⟨rfl, v', hWr.out, hkp⟩
      | succ j =>
        have e : (((j + 1 : Nat) : Int) - 1) = (j : Int) := by omega
        rw [e]
        clear e
        have hd : x / 2 ^ j < 18446744073709551616 := Nat.lt_of_le_of_lt (Nat.div_le_self _ _) hx64
        have hz : ((x : Int) / 2 ^ j) = ((x / 2 ^ j : Nat) : Int) := by simp
        have C : Hid (Calls Try.prog 141 #[.pointer (some ⟨g, 0, none⟩), .int .u64 (bits .and .u64 ((x : Int) / 2 ^ j) 1)] wr.drew fun e w' => e = .returned (.tuple #[]) ∧ ∃ v', Wr K w' base g t rest (bs ++ msb x n (n - j)) v' ∧ Kept K wr.drew w') := by
          have h := add_any K wr.drew g base t rest v' (bs ++ msb x n (n - (j + 1))) (decide (x / 2 ^ j % 2 = 1)) (by rw [List.length_append, msb_length]; have := HLE.out; omega) hWr.out.drew
          have e : n - j = n - (j + 1) + 1 := by omega
          rw [e, msb_succ, ← List.append_assoc, show n - 1 - (n - (j + 1)) = j by omega, hz, and_one _ hd, ← one_bit]
          exact h
        clear hz
        go_upto_region 6 with fail
        go_region_held3 (fun _ => True) (trivial) ((go_at_call 141; first | ((with_reducible refine C.out.mono ?_); rintro e w' ⟨rfl, hb1⟩)))
        obtain ⟨v2, hW2, hk2⟩ := hb1
        have HW2 := Lib.hid hW2
        clear hd hW2 hWr C
        go_wp2_with fail
        go_roundw
        case measure => go_light; simp [intOf]
        case rel =>
          go_light
          exact ⟨j, v2, by omega, by go_num, HW2.out, hkp.drew.trans hk2⟩
end Go.Proofs.Ytdfpcnldfibceaa.Huff

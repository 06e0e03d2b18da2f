/-
  The walks of the letters: sift.letter, words.letter, firkinref15.Small.
-/
import Derived.Test.YtloakdiioaodaaaProg
import Derived.Test.YtloakdiioaodaaaSiftPlain
import Derived.Test.YtloakdiioaodaaaMem
import Derived.WalkKit
import Derived.ProofKit
import Derived.BigQuiet
import Derived.BigGuardPart
import Derived.Lib.Hide
import Derived.Deep.Light
namespace Go.Proofs.Ytloakdiioaodaaa.Sift
open Go.RowKit Go.Proofs.Ytloakdiioaodaaa.Mem

def isLet (n : Nat) : Bool := decide ((97 ≤ n ∧ n ≤ 122) ∨ (65 ≤ n ∧ n ≤ 90) ∨ (48 ≤ n ∧ n ≤ 57))
def smallN (n : Nat) : Nat := if (97 ≤ n ∧ n ≤ 122) ∨ (48 ≤ n ∧ n ≤ 57) then n else if 65 ≤ n ∧ n ≤ 90 then n + 32 else 0
theorem smallB_nat (c : UInt8) : (smallB c).toNat = smallN c.toNat := by
  unfold smallB smallN
  split
  · rfl
  · split
    · rename_i h
      rw [UInt8.toNat_add]
      show (c.toNat + 32) % 256 = _
      omega
    · rfl
theorem letB_nat (c : UInt8) : letB c = isLet c.toNat := by
  have h : letB c = decide ((smallB c).toNat ≠ 0) := by
    unfold letB
    rw [Bool.eq_iff_iff, bne_iff_ne, decide_eq_true_eq]
    constructor
    · intro h h2; exact h (UInt8.toNat_inj.1 h2)
    · intro h h2; exact h (by rw [h2]; rfl)
  rw [h, smallB_nat]
  unfold smallN isLet
  rw [Bool.eq_iff_iff, decide_eq_true_eq, decide_eq_true_eq]
  split
  · constructor <;> intro _ <;> omega
  · split
    · constructor <;> intro _ <;> omega
    · constructor <;> intro _ <;> omega
theorem classes (n : Nat) : n < 48 ∨ (48 ≤ n ∧ n ≤ 57) ∨ (58 ≤ n ∧ n ≤ 64) ∨ (65 ≤ n ∧ n ≤ 90) ∨ (91 ≤ n ∧ n ≤ 96) ∨ (97 ≤ n ∧ n ≤ 122) ∨ 123 ≤ n := by omega

theorem isLet_yes {n : Nat} (h : (97 ≤ n ∧ n ≤ 122) ∨ (65 ≤ n ∧ n ≤ 90) ∨ (48 ≤ n ∧ n ≤ 57)) : isLet n = true := decide_eq_true h
theorem isLet_no {n : Nat} (h : ¬ ((97 ≤ n ∧ n ≤ 122) ∨ (65 ≤ n ∧ n ≤ 90) ∨ (48 ≤ n ∧ n ≤ 57))) : isLet n = false := decide_eq_false h
theorem smallN_n {n : Nat} (h : (97 ≤ n ∧ n ≤ 122) ∨ (48 ≤ n ∧ n ≤ 57)) : smallN n = n := if_pos h
theorem smallN_up {n : Nat} (h : 65 ≤ n ∧ n ≤ 90) : smallN n = n + 32 := (if_neg (by omega)).trans (if_pos h)
theorem smallN_no {n : Nat} (h : ¬ ((97 ≤ n ∧ n ≤ 122) ∨ (48 ≤ n ∧ n ≤ 57)) ∧ ¬ (65 ≤ n ∧ n ≤ 90)) : smallN n = 0 := (if_neg h.1).trans (if_neg h.2)
set_option maxRecDepth 100000 in
theorem sletter_cap (n : Nat) (h : 65 ≤ n) (h' : n ≤ 90) (w : World) : Calls Try.prog 48 #[.int .u8 n] w fun e w' => e = .returned (.bool true) ∧ w = w' := by
  have g0 : decide ((97 : Int) ≤ (n : Int)) = false := decide_eq_false (by omega)
  have g1 : decide ((65 : Int) ≤ (n : Int)) = true := decide_eq_true (by omega)
  have g2 : decide ((48 : Int) ≤ (n : Int)) = true := decide_eq_true (by omega)
  have l0 : decide ((n : Int) ≤ 122) = true := decide_eq_true (by omega)
  have l1 : decide ((n : Int) ≤ 90) = true := decide_eq_true (by omega)
  have l2 : decide ((n : Int) ≤ 57) = false := decide_eq_false (by omega)
  go_enter Try.func48, Try.ntmps48
  go_wp2_with fail
  go_ret
  exact ⟨by first | rfl | go_num | (congr 1; omega), rfl⟩
set_option maxRecDepth 100000 in
theorem sletter_low (n : Nat) (h : 97 ≤ n) (h' : n ≤ 122) (w : World) : Calls Try.prog 48 #[.int .u8 n] w fun e w' => e = .returned (.bool true) ∧ w = w' := by
  have g0 : decide ((97 : Int) ≤ (n : Int)) = true := decide_eq_true (by omega)
  have g1 : decide ((65 : Int) ≤ (n : Int)) = true := decide_eq_true (by omega)
  have g2 : decide ((48 : Int) ≤ (n : Int)) = true := decide_eq_true (by omega)
  have l0 : decide ((n : Int) ≤ 122) = true := decide_eq_true (by omega)
  have l1 : decide ((n : Int) ≤ 90) = false := decide_eq_false (by omega)
  have l2 : decide ((n : Int) ≤ 57) = false := decide_eq_false (by omega)
  go_enter Try.func48, Try.ntmps48
  go_wp2_with fail
  go_ret
  exact ⟨by first | rfl | go_num | (congr 1; omega), rfl⟩
set_option maxRecDepth 100000 in
theorem sletter_dig (n : Nat) (h : 48 ≤ n) (h' : n ≤ 57) (w : World) : Calls Try.prog 48 #[.int .u8 n] w fun e w' => e = .returned (.bool true) ∧ w = w' := by
  have g0 : decide ((97 : Int) ≤ (n : Int)) = false := decide_eq_false (by omega)
  have g1 : decide ((65 : Int) ≤ (n : Int)) = false := decide_eq_false (by omega)
  have g2 : decide ((48 : Int) ≤ (n : Int)) = true := decide_eq_true (by omega)
  have l0 : decide ((n : Int) ≤ 122) = true := decide_eq_true (by omega)
  have l1 : decide ((n : Int) ≤ 90) = true := decide_eq_true (by omega)
  have l2 : decide ((n : Int) ≤ 57) = true := decide_eq_true (by omega)
  go_enter Try.func48, Try.ntmps48
  go_wp2_with fail
  go_ret
  exact ⟨by first | rfl | go_num | (congr 1; omega), rfl⟩
set_option maxRecDepth 100000 in
theorem sletter_n0 (n : Nat) (h : 0 ≤ n) (h' : n < 48) (w : World) : Calls Try.prog 48 #[.int .u8 n] w fun e w' => e = .returned (.bool false) ∧ w = w' := by
  have g0 : decide ((97 : Int) ≤ (n : Int)) = false := decide_eq_false (by omega)
  have g1 : decide ((65 : Int) ≤ (n : Int)) = false := decide_eq_false (by omega)
  have g2 : decide ((48 : Int) ≤ (n : Int)) = false := decide_eq_false (by omega)
  have l0 : decide ((n : Int) ≤ 122) = true := decide_eq_true (by omega)
  have l1 : decide ((n : Int) ≤ 90) = true := decide_eq_true (by omega)
  have l2 : decide ((n : Int) ≤ 57) = true := decide_eq_true (by omega)
  go_enter Try.func48, Try.ntmps48
  go_wp2_with fail
  go_ret
  exact ⟨by first | rfl | go_num | (congr 1; omega), rfl⟩
set_option maxRecDepth 100000 in
theorem sletter_n1 (n : Nat) (h : 58 ≤ n) (h' : n ≤ 64) (w : World) : Calls Try.prog 48 #[.int .u8 n] w fun e w' => e = .returned (.bool false) ∧ w = w' := by
  have g0 : decide ((97 : Int) ≤ (n : Int)) = false := decide_eq_false (by omega)
  have g1 : decide ((65 : Int) ≤ (n : Int)) = false := decide_eq_false (by omega)
  have g2 : decide ((48 : Int) ≤ (n : Int)) = true := decide_eq_true (by omega)
  have l0 : decide ((n : Int) ≤ 122) = true := decide_eq_true (by omega)
  have l1 : decide ((n : Int) ≤ 90) = true := decide_eq_true (by omega)
  have l2 : decide ((n : Int) ≤ 57) = false := decide_eq_false (by omega)
  go_enter Try.func48, Try.ntmps48
  go_wp2_with fail
  go_ret
  exact ⟨by first | rfl | go_num | (congr 1; omega), rfl⟩
set_option maxRecDepth 100000 in
theorem sletter_n2 (n : Nat) (h : 91 ≤ n) (h' : n ≤ 96) (w : World) : Calls Try.prog 48 #[.int .u8 n] w fun e w' => e = .returned (.bool false) ∧ w = w' := by
  have g0 : decide ((97 : Int) ≤ (n : Int)) = false := decide_eq_false (by omega)
  have g1 : decide ((65 : Int) ≤ (n : Int)) = true := decide_eq_true (by omega)
  have g2 : decide ((48 : Int) ≤ (n : Int)) = true := decide_eq_true (by omega)
  have l0 : decide ((n : Int) ≤ 122) = true := decide_eq_true (by omega)
  have l1 : decide ((n : Int) ≤ 90) = false := decide_eq_false (by omega)
  have l2 : decide ((n : Int) ≤ 57) = false := decide_eq_false (by omega)
  go_enter Try.func48, Try.ntmps48
  go_wp2_with fail
  go_ret
  exact ⟨by first | rfl | go_num | (congr 1; omega), rfl⟩
set_option maxRecDepth 100000 in
theorem sletter_n3 (n : Nat) (h : 123 ≤ n) (h' : n < 256) (w : World) : Calls Try.prog 48 #[.int .u8 n] w fun e w' => e = .returned (.bool false) ∧ w = w' := by
  have g0 : decide ((97 : Int) ≤ (n : Int)) = true := decide_eq_true (by omega)
  have g1 : decide ((65 : Int) ≤ (n : Int)) = true := decide_eq_true (by omega)
  have g2 : decide ((48 : Int) ≤ (n : Int)) = true := decide_eq_true (by omega)
  have l0 : decide ((n : Int) ≤ 122) = false := decide_eq_false (by omega)
  have l1 : decide ((n : Int) ≤ 90) = false := decide_eq_false (by omega)
  have l2 : decide ((n : Int) ≤ 57) = false := decide_eq_false (by omega)
  go_enter Try.func48, Try.ntmps48
  go_wp2_with fail
  go_ret
  exact ⟨by first | rfl | go_num | (congr 1; omega), rfl⟩
theorem sletter_any (n : Nat) (hn : n < 256) (w : World) : Calls Try.prog 48 #[.int .u8 n] w fun e w' => e = .returned (.bool (isLet n)) ∧ w = w' := by
  rcases classes n with h | ⟨h, h'⟩ | ⟨h, h'⟩ | ⟨h, h'⟩ | ⟨h, h'⟩ | ⟨h, h'⟩ | h
  · rw [isLet_no (by omega)]; exact sletter_n0 n (by omega) h w
  · rw [isLet_yes (by omega)]; exact sletter_dig n h h' w
  · rw [isLet_no (by omega)]; exact sletter_n1 n h h' w
  · rw [isLet_yes (by omega)]; exact sletter_cap n h h' w
  · rw [isLet_no (by omega)]; exact sletter_n2 n h h' w
  · rw [isLet_yes (by omega)]; exact sletter_low n h h' w
  · rw [isLet_no (by omega)]; exact sletter_n3 n h hn w
set_option maxRecDepth 100000 in
theorem wletter_cap (n : Nat) (h : 65 ≤ n) (h' : n ≤ 90) (w : World) : Calls Try.prog 79 #[.int .u8 n] w fun e w' => e = .returned (.tuple #[.int .u8 (n + 32 : Nat), .bool true]) ∧ w = w' := by
  have g0 : decide ((97 : Int) ≤ (n : Int)) = false := decide_eq_false (by omega)
  have g1 : decide ((65 : Int) ≤ (n : Int)) = true := decide_eq_true (by omega)
  have g2 : decide ((48 : Int) ≤ (n : Int)) = true := decide_eq_true (by omega)
  have l0 : decide ((n : Int) ≤ 122) = true := decide_eq_true (by omega)
  have l1 : decide ((n : Int) ≤ 90) = true := decide_eq_true (by omega)
  have l2 : decide ((n : Int) ≤ 57) = false := decide_eq_false (by omega)
  go_enter Try.func79, Try.ntmps79
  go_wp2_with fail
  go_ret2
  exact ⟨by first | rfl | go_num | (congr 1; omega), rfl⟩
set_option maxRecDepth 100000 in
theorem wletter_low (n : Nat) (h : 97 ≤ n) (h' : n ≤ 122) (w : World) : Calls Try.prog 79 #[.int .u8 n] w fun e w' => e = .returned (.tuple #[.int .u8 (n : Nat), .bool true]) ∧ w = w' := by
  have g0 : decide ((97 : Int) ≤ (n : Int)) = true := decide_eq_true (by omega)
  have g1 : decide ((65 : Int) ≤ (n : Int)) = true := decide_eq_true (by omega)
  have g2 : decide ((48 : Int) ≤ (n : Int)) = true := decide_eq_true (by omega)
  have l0 : decide ((n : Int) ≤ 122) = true := decide_eq_true (by omega)
  have l1 : decide ((n : Int) ≤ 90) = false := decide_eq_false (by omega)
  have l2 : decide ((n : Int) ≤ 57) = false := decide_eq_false (by omega)
  go_enter Try.func79, Try.ntmps79
  go_wp2_with fail
  go_ret2
  exact ⟨by first | rfl | go_num | (congr 1; omega), rfl⟩
set_option maxRecDepth 100000 in
theorem wletter_dig (n : Nat) (h : 48 ≤ n) (h' : n ≤ 57) (w : World) : Calls Try.prog 79 #[.int .u8 n] w fun e w' => e = .returned (.tuple #[.int .u8 (n : Nat), .bool true]) ∧ w = w' := by
  have g0 : decide ((97 : Int) ≤ (n : Int)) = false := decide_eq_false (by omega)
  have g1 : decide ((65 : Int) ≤ (n : Int)) = false := decide_eq_false (by omega)
  have g2 : decide ((48 : Int) ≤ (n : Int)) = true := decide_eq_true (by omega)
  have l0 : decide ((n : Int) ≤ 122) = true := decide_eq_true (by omega)
  have l1 : decide ((n : Int) ≤ 90) = true := decide_eq_true (by omega)
  have l2 : decide ((n : Int) ≤ 57) = true := decide_eq_true (by omega)
  go_enter Try.func79, Try.ntmps79
  go_wp2_with fail
  go_ret2
  exact ⟨by first | rfl | go_num | (congr 1; omega), rfl⟩
set_option maxRecDepth 100000 in
theorem wletter_n0 (n : Nat) (h : 0 ≤ n) (h' : n < 48) (w : World) : Calls Try.prog 79 #[.int .u8 n] w fun e w' => e = .returned (.tuple #[.int .u8 (0 : Nat), .bool false]) ∧ w = w' := by
  have g0 : decide ((97 : Int) ≤ (n : Int)) = false := decide_eq_false (by omega)
  have g1 : decide ((65 : Int) ≤ (n : Int)) = false := decide_eq_false (by omega)
  have g2 : decide ((48 : Int) ≤ (n : Int)) = false := decide_eq_false (by omega)
  have l0 : decide ((n : Int) ≤ 122) = true := decide_eq_true (by omega)
  have l1 : decide ((n : Int) ≤ 90) = true := decide_eq_true (by omega)
  have l2 : decide ((n : Int) ≤ 57) = true := decide_eq_true (by omega)
  go_enter Try.func79, Try.ntmps79
  go_wp2_with fail
  go_ret2
  exact ⟨by first | rfl | go_num | (congr 1; omega), rfl⟩
set_option maxRecDepth 100000 in
theorem wletter_n1 (n : Nat) (h : 58 ≤ n) (h' : n ≤ 64) (w : World) : Calls Try.prog 79 #[.int .u8 n] w fun e w' => e = .returned (.tuple #[.int .u8 (0 : Nat), .bool false]) ∧ w = w' := by
  have g0 : decide ((97 : Int) ≤ (n : Int)) = false := decide_eq_false (by omega)
  have g1 : decide ((65 : Int) ≤ (n : Int)) = false := decide_eq_false (by omega)
  have g2 : decide ((48 : Int) ≤ (n : Int)) = true := decide_eq_true (by omega)
  have l0 : decide ((n : Int) ≤ 122) = true := decide_eq_true (by omega)
  have l1 : decide ((n : Int) ≤ 90) = true := decide_eq_true (by omega)
  have l2 : decide ((n : Int) ≤ 57) = false := decide_eq_false (by omega)
  go_enter Try.func79, Try.ntmps79
  go_wp2_with fail
  go_ret2
  exact ⟨by first | rfl | go_num | (congr 1; omega), rfl⟩
set_option maxRecDepth 100000 in
theorem wletter_n2 (n : Nat) (h : 91 ≤ n) (h' : n ≤ 96) (w : World) : Calls Try.prog 79 #[.int .u8 n] w fun e w' => e = .returned (.tuple #[.int .u8 (0 : Nat), .bool false]) ∧ w = w' := by
  have g0 : decide ((97 : Int) ≤ (n : Int)) = false := decide_eq_false (by omega)
  have g1 : decide ((65 : Int) ≤ (n : Int)) = true := decide_eq_true (by omega)
  have g2 : decide ((48 : Int) ≤ (n : Int)) = true := decide_eq_true (by omega)
  have l0 : decide ((n : Int) ≤ 122) = true := decide_eq_true (by omega)
  have l1 : decide ((n : Int) ≤ 90) = false := decide_eq_false (by omega)
  have l2 : decide ((n : Int) ≤ 57) = false := decide_eq_false (by omega)
  go_enter Try.func79, Try.ntmps79
  go_wp2_with fail
  go_ret2
  exact ⟨by first | rfl | go_num | (congr 1; omega), rfl⟩
set_option maxRecDepth 100000 in
theorem wletter_n3 (n : Nat) (h : 123 ≤ n) (h' : n < 256) (w : World) : Calls Try.prog 79 #[.int .u8 n] w fun e w' => e = .returned (.tuple #[.int .u8 (0 : Nat), .bool false]) ∧ w = w' := by
  have g0 : decide ((97 : Int) ≤ (n : Int)) = true := decide_eq_true (by omega)
  have g1 : decide ((65 : Int) ≤ (n : Int)) = true := decide_eq_true (by omega)
  have g2 : decide ((48 : Int) ≤ (n : Int)) = true := decide_eq_true (by omega)
  have l0 : decide ((n : Int) ≤ 122) = false := decide_eq_false (by omega)
  have l1 : decide ((n : Int) ≤ 90) = false := decide_eq_false (by omega)
  have l2 : decide ((n : Int) ≤ 57) = false := decide_eq_false (by omega)
  go_enter Try.func79, Try.ntmps79
  go_wp2_with fail
  go_ret2
  exact ⟨by first | rfl | go_num | (congr 1; omega), rfl⟩
theorem wletter_any (n : Nat) (hn : n < 256) (w : World) : Calls Try.prog 79 #[.int .u8 n] w fun e w' => e = .returned (.tuple #[.int .u8 (smallN n : Nat), .bool (isLet n)]) ∧ w = w' := by
  rcases classes n with h | ⟨h, h'⟩ | ⟨h, h'⟩ | ⟨h, h'⟩ | ⟨h, h'⟩ | ⟨h, h'⟩ | h
  · rw [isLet_no (by omega), smallN_no (by omega)]; exact wletter_n0 n (by omega) h w
  · rw [isLet_yes (by omega), smallN_n (by omega)]; exact wletter_dig n h h' w
  · rw [isLet_no (by omega), smallN_no (by omega)]; exact wletter_n1 n h h' w
  · rw [isLet_yes (by omega), smallN_up (by omega)]; exact wletter_cap n h h' w
  · rw [isLet_no (by omega), smallN_no (by omega)]; exact wletter_n2 n h h' w
  · rw [isLet_yes (by omega), smallN_n (by omega)]; exact wletter_low n h h' w
  · rw [isLet_no (by omega), smallN_no (by omega)]; exact wletter_n3 n h hn w
set_option maxRecDepth 100000 in
theorem rsmall_cap (n : Nat) (h : 65 ≤ n) (h' : n ≤ 90) (w : World) : Calls Try.prog 25 #[.int .u8 n] w fun e w' => e = .returned (.int .u8 (n + 32 : Nat)) ∧ w = w' := by
  have g0 : decide ((97 : Int) ≤ (n : Int)) = false := decide_eq_false (by omega)
  have g1 : decide ((65 : Int) ≤ (n : Int)) = true := decide_eq_true (by omega)
  have g2 : decide ((48 : Int) ≤ (n : Int)) = true := decide_eq_true (by omega)
  have l0 : decide ((n : Int) ≤ 122) = true := decide_eq_true (by omega)
  have l1 : decide ((n : Int) ≤ 90) = true := decide_eq_true (by omega)
  have l2 : decide ((n : Int) ≤ 57) = false := decide_eq_false (by omega)
  go_enter Try.func25, Try.ntmps25
  go_wp2_with fail
  go_ret
  exact ⟨by first | rfl | go_num | (congr 1; omega), rfl⟩
set_option maxRecDepth 100000 in
theorem rsmall_low (n : Nat) (h : 97 ≤ n) (h' : n ≤ 122) (w : World) : Calls Try.prog 25 #[.int .u8 n] w fun e w' => e = .returned (.int .u8 (n : Nat)) ∧ w = w' := by
  have g0 : decide ((97 : Int) ≤ (n : Int)) = true := decide_eq_true (by omega)
  have g1 : decide ((65 : Int) ≤ (n : Int)) = true := decide_eq_true (by omega)
  have g2 : decide ((48 : Int) ≤ (n : Int)) = true := decide_eq_true (by omega)
  have l0 : decide ((n : Int) ≤ 122) = true := decide_eq_true (by omega)
  have l1 : decide ((n : Int) ≤ 90) = false := decide_eq_false (by omega)
  have l2 : decide ((n : Int) ≤ 57) = false := decide_eq_false (by omega)
  go_enter Try.func25, Try.ntmps25
  go_wp2_with fail
  go_ret
  exact ⟨by first | rfl | go_num | (congr 1; omega), rfl⟩
set_option maxRecDepth 100000 in
theorem rsmall_dig (n : Nat) (h : 48 ≤ n) (h' : n ≤ 57) (w : World) : Calls Try.prog 25 #[.int .u8 n] w fun e w' => e = .returned (.int .u8 (n : Nat)) ∧ w = w' := by
  have g0 : decide ((97 : Int) ≤ (n : Int)) = false := decide_eq_false (by omega)
  have g1 : decide ((65 : Int) ≤ (n : Int)) = false := decide_eq_false (by omega)
  have g2 : decide ((48 : Int) ≤ (n : Int)) = true := decide_eq_true (by omega)
  have l0 : decide ((n : Int) ≤ 122) = true := decide_eq_true (by omega)
  have l1 : decide ((n : Int) ≤ 90) = true := decide_eq_true (by omega)
  have l2 : decide ((n : Int) ≤ 57) = true := decide_eq_true (by omega)
  go_enter Try.func25, Try.ntmps25
  go_wp2_with fail
  go_ret
  exact ⟨by first | rfl | go_num | (congr 1; omega), rfl⟩
set_option maxRecDepth 100000 in
theorem rsmall_n0 (n : Nat) (h : 0 ≤ n) (h' : n < 48) (w : World) : Calls Try.prog 25 #[.int .u8 n] w fun e w' => e = .returned (.int .u8 (0 : Nat)) ∧ w = w' := by
  have g0 : decide ((97 : Int) ≤ (n : Int)) = false := decide_eq_false (by omega)
  have g1 : decide ((65 : Int) ≤ (n : Int)) = false := decide_eq_false (by omega)
  have g2 : decide ((48 : Int) ≤ (n : Int)) = false := decide_eq_false (by omega)
  have l0 : decide ((n : Int) ≤ 122) = true := decide_eq_true (by omega)
  have l1 : decide ((n : Int) ≤ 90) = true := decide_eq_true (by omega)
  have l2 : decide ((n : Int) ≤ 57) = true := decide_eq_true (by omega)
  go_enter Try.func25, Try.ntmps25
  go_wp2_with fail
  go_ret
  exact ⟨by first | rfl | go_num | (congr 1; omega), rfl⟩
set_option maxRecDepth 100000 in
theorem rsmall_n1 (n : Nat) (h : 58 ≤ n) (h' : n ≤ 64) (w : World) : Calls Try.prog 25 #[.int .u8 n] w fun e w' => e = .returned (.int .u8 (0 : Nat)) ∧ w = w' := by
  have g0 : decide ((97 : Int) ≤ (n : Int)) = false := decide_eq_false (by omega)
  have g1 : decide ((65 : Int) ≤ (n : Int)) = false := decide_eq_false (by omega)
  have g2 : decide ((48 : Int) ≤ (n : Int)) = true := decide_eq_true (by omega)
  have l0 : decide ((n : Int) ≤ 122) = true := decide_eq_true (by omega)
  have l1 : decide ((n : Int) ≤ 90) = true := decide_eq_true (by omega)
  have l2 : decide ((n : Int) ≤ 57) = false := decide_eq_false (by omega)
  go_enter Try.func25, Try.ntmps25
  go_wp2_with fail
  go_ret
  exact ⟨by first | rfl | go_num | (congr 1; omega), rfl⟩
set_option maxRecDepth 100000 in
theorem rsmall_n2 (n : Nat) (h : 91 ≤ n) (h' : n ≤ 96) (w : World) : Calls Try.prog 25 #[.int .u8 n] w fun e w' => e = .returned (.int .u8 (0 : Nat)) ∧ w = w' := by
  have g0 : decide ((97 : Int) ≤ (n : Int)) = false := decide_eq_false (by omega)
  have g1 : decide ((65 : Int) ≤ (n : Int)) = true := decide_eq_true (by omega)
  have g2 : decide ((48 : Int) ≤ (n : Int)) = true := decide_eq_true (by omega)
  have l0 : decide ((n : Int) ≤ 122) = true := decide_eq_true (by omega)
  have l1 : decide ((n : Int) ≤ 90) = false := decide_eq_false (by omega)
  have l2 : decide ((n : Int) ≤ 57) = false := decide_eq_false (by omega)
  go_enter Try.func25, Try.ntmps25
  go_wp2_with fail
  go_ret
  exact ⟨by first | rfl | go_num | (congr 1; omega), rfl⟩
set_option maxRecDepth 100000 in
theorem rsmall_n3 (n : Nat) (h : 123 ≤ n) (h' : n < 256) (w : World) : Calls Try.prog 25 #[.int .u8 n] w fun e w' => e = .returned (.int .u8 (0 : Nat)) ∧ w = w' := by
  have g0 : decide ((97 : Int) ≤ (n : Int)) = true := decide_eq_true (by omega)
  have g1 : decide ((65 : Int) ≤ (n : Int)) = true := decide_eq_true (by omega)
  have g2 : decide ((48 : Int) ≤ (n : Int)) = true := decide_eq_true (by omega)
  have l0 : decide ((n : Int) ≤ 122) = false := decide_eq_false (by omega)
  have l1 : decide ((n : Int) ≤ 90) = false := decide_eq_false (by omega)
  have l2 : decide ((n : Int) ≤ 57) = false := decide_eq_false (by omega)
  go_enter Try.func25, Try.ntmps25
  go_wp2_with fail
  go_ret
  exact ⟨by first | rfl | go_num | (congr 1; omega), rfl⟩
theorem rsmall_any (n : Nat) (hn : n < 256) (w : World) : Calls Try.prog 25 #[.int .u8 n] w fun e w' => e = .returned (.int .u8 (smallN n : Nat)) ∧ w = w' := by
  rcases classes n with h | ⟨h, h'⟩ | ⟨h, h'⟩ | ⟨h, h'⟩ | ⟨h, h'⟩ | ⟨h, h'⟩ | h
  · rw [smallN_no (by omega)]; exact rsmall_n0 n (by omega) h w
  · rw [smallN_n (by omega)]; exact rsmall_dig n h h' w
  · rw [smallN_no (by omega)]; exact rsmall_n1 n h h' w
  · rw [smallN_up (by omega)]; exact rsmall_cap n h h' w
  · rw [smallN_no (by omega)]; exact rsmall_n2 n h h' w
  · rw [smallN_n (by omega)]; exact rsmall_low n h h' w
  · rw [smallN_no (by omega)]; exact rsmall_n3 n h hn w
end Go.Proofs.Ytloakdiioaodaaa.Sift

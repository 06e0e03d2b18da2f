/-
  The walks of huff's words.length and Coder.Len.
-/
import Derived.Test.YtloakdiioaodaaaCloneNum
namespace Go.Proofs.Ytloakdiioaodaaa.Huff
open Go.RowKit Go.Proofs.Ytloakdiioaodaaa.Mem Go.Proofs.Ytloakdiioaodaaa.Canon

def lenAt (ls : List Nat) (s : Int) : Nat := if s < 0 then 0 else ls.getD s.toNat 0

set_option maxRecDepth 100000 in
theorem length_any (w : World) (g B : Nat) (A : Option Addr) (n c : Nat) (ls : List Nat) (s : Int) (hn : ls.length = n) (hs : -9223372036854775808 ≤ s ∧ s ≤ 9223372036854775807)
    (hsm : ∀ x ∈ ls, x ≤ 255) (hg : w.cell? ⟨g, 0, none⟩ = some (.slice A n c)) (ha : Row w B A n 1 (numF .u8 ls)) :
    Calls Try.prog 89 #[.pointer (some ⟨g, 0, none⟩), .int .i64 s] w fun e w' => e = .returned (.int .i64 (lenAt ls s : Nat)) ∧ w = w' := by
  obtain ⟨hs1, hs2⟩ := hs
  by_cases h0 : s < 0
  · have e0 : lenAt ls s = 0 := by unfold lenAt; rw [if_pos h0]
    rw [e0]
    clear hsm hn
    go_enter Try.func89, Try.ntmps89
    go_wp2_with fail
    go_ret
    exact ⟨rfl, rfl⟩
  · obtain ⟨m, rfl⟩ := Int.eq_ofNat_of_zero_le (show 0 ≤ s by omega)
    by_cases h1 : m < n
    · obtain ⟨b, off, x, rfl, hb, hx, hc⟩ := num_cell ha hn h1
      have hx255 : x ≤ 255 := hsm x (List.mem_of_getElem? hx)
      have e0 : lenAt ls (m : Int) = x := by unfold lenAt; rw [if_neg h0]; simp [List.getD_eq_getElem?_getD, hx]
      rw [e0]
      have x0 : (0 : Int) ≤ (m : Int) := by omega
      have x1 : (m : Int) < (n : Int) := by omega
      clear hsm hn hx
      go_enter Try.func89, Try.ntmps89
      go_wp2_with fail
      go_ret
      exact ⟨by go_num, rfl⟩
    · have e0 : lenAt ls (m : Int) = 0 := by
        unfold lenAt; rw [if_neg h0]
        simp [List.getD_eq_getElem?_getD, List.getElem?_eq_none (show ls.length ≤ m by omega)]
      rw [e0]
      have x1 : ¬ (m : Int) < (n : Int) := by omega
      clear hsm hn
      go_enter Try.func89, Try.ntmps89
      go_wp2_with fail
      go_ret
      exact ⟨rfl, rfl⟩

set_option maxRecDepth 100000 in
theorem len_nil (w : World) (s : Int) :
    Calls Try.prog 65 #[.pointer none, .int .i64 s] w fun e w' => e = .returned (.int .i64 0) ∧ w = w' := by
  go_enter Try.func65, Try.ntmps65
  go_wp2_with fail
  go_ret
  exact ⟨rfl, rfl⟩
set_option maxRecDepth 100000 in
theorem len_any (w : World) (g B : Nat) (A : Option Addr) (n c : Nat) (ls : List Nat) (s : Int) (hn : ls.length = n) (hs : -9223372036854775808 ≤ s ∧ s ≤ 9223372036854775807)
    (hsm : ∀ x ∈ ls, x ≤ 255) (hg : w.cell? ⟨g, 0, none⟩ = some (.slice A n c)) (ha : Row w B A n 1 (numF .u8 ls)) :
    Calls Try.prog 65 #[.pointer (some ⟨g, 0, none⟩), .int .i64 s] w fun e w' => e = .returned (.int .i64 (lenAt ls s : Nat)) ∧ w = w' := by
  have C := Lib.hid (length_any w g B A n c ls s hn hs hsm hg ha)
  clear hn hs hsm ha
  go_enter Try.func65, Try.ntmps65
  go_wp2_with fail
  refine C.out.mono ?_
  rintro e w1 ⟨rfl, rfl⟩
  go_wp2_with fail
  go_ret
  exact ⟨rfl, rfl⟩
end Go.Proofs.Ytloakdiioaodaaa.Huff

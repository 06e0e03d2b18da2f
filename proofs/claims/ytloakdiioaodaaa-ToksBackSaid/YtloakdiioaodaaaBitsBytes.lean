/-
  The walk of bits' Writer.Bytes.
-/
import Derived.Test.YtloakdiioaodaaaCloneNum
namespace Go.Proofs.Ytloakdiioaodaaa.Huff
open Go.RowKit Go.Proofs.Ytloakdiioaodaaa.Mem Go.Proofs.Ytloakdiioaodaaa.Canon

set_option maxRecDepth 100000 in
theorem wbytes_any (w : World) (g : Nat) (A : Option Addr) (n c : Nat) (ls : List Nat) (hn : ls.length = n) (hle : n ≤ 100000) (hnil : A = none → n = 0 ∧ c = 0)
    (hg : w.cell? ⟨g, 0, none⟩ = some (.slice A n c)) (ha : Row w w.heap.size A n 1 (numF .u8 ls)) :
    Calls Try.prog 32 #[.pointer (some ⟨g, 0, none⟩)] w fun e w' => ∃ v, e = .returned v ∧ w'.ownsRow w.heap.size 5 1 v n (numL .u8 ls) ∧ Below w.heap.size w w' := by
  have C := Lib.hid (clone_u8 w A n c ls hn hle hnil ha)
  clear hn hle hnil ha
  go_enter Try.func32, Try.ntmps32
  go_wp2_with fail
  refine C.out.mono ?_
  rintro e w1 ⟨v, rfl, hv, hb⟩
  go_wp2_with fail
  go_ret
  exact ⟨_, rfl, hv, hb⟩
end Go.Proofs.Ytloakdiioaodaaa.Huff

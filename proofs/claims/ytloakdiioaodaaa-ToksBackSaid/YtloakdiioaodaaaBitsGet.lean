/-
  The walks of bits' Reader.Get and of the reference's R.Get.
-/
import Derived.Test.YtloakdiioaodaaaRefRead
namespace Go.Proofs.Ytloakdiioaodaaa.Huff
open Go.RowKit Go.Proofs.Ytloakdiioaodaaa.Mem Go.Proofs.Ytloakdiioaodaaa.Canon Go.Proofs.Ytloakdiioaodaaa.Own

/-- The number that is got, the error, the place behind it. -/
def gotV (bs : List Bool) (at_ m : Nat) : Nat := if at_ + m ≤ bs.length then accB bs at_ m else 0
def gotE (bs : List Bool) (at_ m : Nat) : Int := if at_ + m ≤ bs.length then 0 else 1
def gotA (bs : List Bool) (at_ m : Nat) : Nat := if at_ + m ≤ bs.length then at_ + m else at_

set_option maxRecDepth 100000 in
theorem bget_any (w : World) (lo g : Nat) (bs : List Bool) (at_ m : Nat) (hm : m ≤ 64) (hR : Rd w lo g bs at_) :
    Calls Try.prog 91 #[.pointer (some ⟨g, 0, none⟩), .int .i64 (m : Nat)] w fun e w' =>
      e = .returned (.tuple #[.int .u64 (gotV bs at_ m : Nat), .int .i64 (gotE bs at_ m)]) ∧ Rd w' lo g bs (gotA bs at_ m) ∧ Kept (fun x => x ≠ g) w w' := by
  have C := Lib.hid (left_any w lo g bs at_ hR)
  have HR := Lib.hid hR
  have hat : at_ ≤ bs.length ∧ bs.length ≤ 800000 := by
    obtain ⟨A, n, c, ls, h1, h2, h3, h4, h5, h6, h7⟩ := hR
    rw [h5, rbits_length, h3]; omega
  obtain ⟨hat1, hat2⟩ := hat
  have c2 := hR.cellAt
  have f2 : w.frozen? ⟨g, 2, none⟩ = false := by
    obtain ⟨A, n, c, ls, h1, _⟩ := hR
    exact h1.frozen 2
  unfold gotV gotE gotA
  by_cases hlt : at_ + m ≤ bs.length
  · rw [if_pos hlt, if_pos hlt, if_pos hlt]
    have C2 := Lib.hid (number_rd w lo g bs at_ m hm hR)
    have x1 : (m : Int) ≤ ((bs.length - at_ : Nat) : Int) := by omega
    have HLT := Lib.hid hlt
    generalize accB bs at_ m = y at *
    clear hR hlt
    go_enter Try.func91, Try.ntmps91
    go_wp2_with fail
    refine C.out.mono ?_
    rintro e w1 ⟨rfl, q, hq⟩
    have hR1 : Rd w1 lo g bs at_ := by rw [hq]; exact HR.out.drewN q
    have d2 := hR1.cellAt
    have g2 : w1.frozen? ⟨g, 2, none⟩ = false := by rw [hq]; exact f2
    have C4 : Hid (∀ p, Calls Try.prog 76 #[.pointer (some ⟨g, 0, none⟩), .int .i64 (at_ : Nat), .int .i64 (m : Nat)] (w1.drewN p) fun e w' => e = .returned (.int .u64 (y : Nat)) ∧ w' = w1.drewN p) := by
      intro p
      have h := C2.out (q + p)
      rw [hq, World.drewN_drewN]
      exact h
    have HR1 := Lib.hid hR1
    have HK1 : Hid (Kept (fun x => x ≠ g) w w1) := by show Kept _ w w1; rw [hq]; exact (Kept.refl _ w).drewN q
    clear hq hR1 C C2 c2 f2
    go_wp2_with fail
    go_quiet (first | (go_at_call 76; exact Calls.quiet_of_same (C4.out _)))
    go_wp2_with fail
    go_ret2
    exact ⟨rfl, (HR1.out.drewN _).moved HLT.out, Kept.set (p := ⟨g, 2, none⟩) (HK1.out.drewN _) (fun h => h rfl) _⟩
  · rw [if_neg hlt, if_neg hlt, if_neg hlt]
    have x1 : ¬ (m : Int) ≤ ((bs.length - at_ : Nat) : Int) := by omega
    clear hR
    go_enter Try.func91, Try.ntmps91
    go_wp2_with fail
    refine C.out.mono ?_
    rintro e w1 ⟨rfl, q, rfl⟩
    go_wp2_with fail
    go_ret2
    exact ⟨rfl, HR.out.drewN q, (Kept.refl _ w).drewN q⟩

end Go.Proofs.Ytloakdiioaodaaa.Huff

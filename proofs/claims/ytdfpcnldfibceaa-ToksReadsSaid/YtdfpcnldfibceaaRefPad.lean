/-
  The walks of the reference's R.Pad and of its Same on integers.
-/
import Derived.Test.YtdfpcnldfibceaaRefRead
import Derived.Test.YtdfpcnldfibceaaOpenNums
namespace Go.Proofs.Ytdfpcnldfibceaa.Huff
open Go.RowKit Go.Proofs.Ytdfpcnldfibceaa.Mem Go.Proofs.Ytdfpcnldfibceaa.Canon Go.Proofs.Ytdfpcnldfibceaa.Own Go.Proofs.Ytdfpcnldfibceaa.Open

theorem accB_grows (bs : List Bool) (i m : Nat) (h : accB bs i m ≠ 0) : ∀ d, accB bs i (m + d) ≠ 0
  | 0 => h
  | d + 1 => by
    have := accB_grows bs i m h d
    rw [← Nat.add_assoc, accB]
    omega

set_option maxHeartbeats 1000000 in
set_option maxRecDepth 100000 in
theorem rpad_any (w : World) (g hi : Nat) (bs : List Bool) (at_ : Nat) (hR : RRd w g hi bs at_) :
    Calls Try.prog 126 #[.pointer (some ⟨g, 0, none⟩)] w fun e w' => e = .returned (.int .i64 (padE bs at_)) ∧ ∃ q, w' = w.drewN q := by
  have C1 := Lib.hid (rleft_any w g hi bs at_ hR)
  have HR := Lib.hid hR
  have hat : at_ ≤ bs.length ∧ bs.length ≤ 800000 := by obtain ⟨_, _, _, _, h3, h4⟩ := hR; exact ⟨h3, h4⟩
  obtain ⟨hat1, hat2⟩ := hat
  clear hR
  by_cases h8 : bs.length - at_ < 8
  · have x8 : ¬ (8 : Int) ≤ ((bs.length - at_ : Nat) : Int) := by omega
    go_enter Try.func126, Try.ntmps126
    go_wp2_with fail
    refine C1.out.mono ?_
    rintro e w1 ⟨rfl, q1, hq1⟩
    have hR1 : RRd w1 g hi bs at_ := by rw [hq1]; exact HR.out
    obtain ⟨A, c, c0, c1, _, hrow, _, _⟩ := hR1.cells
    have HQ := Lib.hid hq1
    have HROW := Lib.hid hrow
    obtain ⟨z, hz⟩ : ∃ z, z = bs.length := ⟨_, rfl⟩
    rw [← hz] at c0 hat1 hat2 h8
    have HZ := Lib.hid hz
    clear hq1 hrow hR1 hz C1
    go_wp2_with fail
    go_loopw [3] (fun i wr => ∃ p : Nat, at_ ≤ p ∧ p ≤ z ∧ i = .int .i64 p ∧ Hid (accB bs at_ (p - at_) = 0) ∧ w1 = wr) (fun i _ => z - (intOf i).toNat)
    case atStart => exact ⟨at_, by omega, by omega, rfl, by show _ = 0; rw [Nat.sub_self]; rfl, rfl⟩
    case round =>
      obtain ⟨p, hp1, hp2, rfl, hacc, rfl⟩ := hrel
      by_cases hlt : p < z
      · obtain ⟨b, off, y, rfl, _, hy, d0⟩ := num_cell HROW.out.row (b01_length bs) (show p < bs.length by rw [← HZ.out]; exact hlt)
        have hyb : bit bs p = y := by rw [← b01_get, List.getD_eq_getElem?_getD, hy]; rfl
        have hyl := bit_le bs p
        have hstep : accB bs at_ (p + 1 - at_) = y := by
          rw [show p + 1 - at_ = (p - at_) + 1 by omega, accB, hacc.out, show at_ + (p - at_) = p by omega, hyb]
          omega
        rw [hyb] at hyl
        have HS := Lib.hid hstep
        have x0 : (0 : Int) ≤ (p : Int) := by omega
        have x1 : (p : Int) < (z : Int) := by omega
        clear hy hyb hstep
        by_cases hy1 : y = 1
        · subst hy1
          have hE : padE bs at_ = 2 := by
            unfold padE
            rw [if_pos]
            right
            have h := accB_grows bs at_ (p + 1 - at_) (by rw [HS.out]; omega) (bs.length - (p + 1))
            rw [show p + 1 - at_ + (bs.length - (p + 1)) = bs.length - at_ by rw [← HZ.out]; omega] at h
            exact h
          have HE := Lib.hid hE
          clear hE
          go_wp2_with fail
          go_ret
          exact ⟨by rw [HE.out]; rfl, q1, HQ.out⟩
        · obtain rfl : y = 0 := by omega
          go_wp2_with fail
          go_roundw
          case measure => go_light; simp [intOf]; omega
          case rel =>
            go_light
            exact ⟨p + 1, by omega, by omega, by go_num, HS.out, trivial⟩
      · obtain rfl : p = z := by omega
        have hE : padE bs at_ = 0 := by
          unfold padE
          rw [← HZ.out, if_neg]
          rw [not_or, Nat.not_le, Decidable.not_not]
          exact ⟨h8, hacc.out⟩
        have HE := Lib.hid hE
        clear hE
        go_wp2_with fail
        go_ret
        exact ⟨by rw [HE.out]; rfl, q1, HQ.out⟩
  · have x8 : (8 : Int) ≤ ((bs.length - at_ : Nat) : Int) := by omega
    have HE : Hid (padE bs at_ = 2) := by show _ = _; unfold padE; rw [if_pos (.inl (by omega))]
    go_enter Try.func126, Try.ntmps126
    go_wp2_with fail
    refine C1.out.mono ?_
    rintro e w1 ⟨rfl, q1, rfl⟩
    go_wp2_with fail
    go_ret
    exact ⟨by rw [HE.out]; rfl, q1, rfl⟩

theorem int_at {w : World} {B n : Nat} {A : Option Addr} {k : IntKind} {ls : List Int} (h : Row w B A n 1 (intF k ls)) (hn : ls.length = n) {i : Nat} (hi : i < n) :
    ∃ b off, A = some ⟨b, off, none⟩ ∧ w.cell? ⟨b, off + i, none⟩ = some (.int k (ls.getD i 0)) := by
  obtain ⟨b, off, e, hb, hc⟩ := h (by omega)
  have h1 := hc i 0 hi (by omega)
  rw [Nat.mul_one, Nat.add_zero] at h1
  exact ⟨b, off, e, h1⟩

set_option maxRecDepth 100000 in
theorem same_ints (w : World) (A B : Option Addr) (n c d BA BB : Nat) (l : List Int) (hn : l.length = n) (hN : n ≤ 9223372036854775807) (ha : Row w BA A n 1 (intF .i64 l)) (hb : Row w BB B n 1 (intF .i64 l)) :
    Calls Try.prog 73 #[.slice A n c, .slice B n d] w fun e w' => e = .returned (.bool true) ∧ ∃ q, w' = w.drewN q := by
  have HN := Lib.hid hn
  clear hn
  go_enter Try.func73, Try.ntmps73
  go_wp2_with fail
  go_loopw [5] (fun i wr => ∃ k : Nat, k ≤ n ∧ i = .int .i64 k ∧ Hid (∃ q, wr = w.drewN q)) (fun i _ => n - (intOf i).toNat)
  case atStart => exact ⟨0, by omega, rfl, ⟨0, rfl⟩⟩
  case round =>
    obtain ⟨k, hk, rfl, hdr⟩ := hrel
    by_cases hlt : k < n
    · have ha1 : Row wr BA A n 1 (intF .i64 l) := by obtain ⟨q, hq⟩ := hdr.out; rw [hq]; exact ha
      have hb1 : Row wr BB B n 1 (intF .i64 l) := by obtain ⟨q, hq⟩ := hdr.out; rw [hq]; exact hb
      obtain ⟨b, off, rfl, d0⟩ := int_at ha1 HN.out hlt
      obtain ⟨b', off', rfl, d1⟩ := int_at hb1 HN.out hlt
      generalize l.getD k 0 = y at *
      have x0 : (0 : Int) ≤ (k : Int) := by omega
      have x1 : (k : Int) < (n : Int) := by omega
      clear ha1 hb1
      go_wp2_with fail
      go_quiet (fail)
      go_wp2_with fail
      go_roundw
      case measure => go_light; simp [intOf]; omega
      case rel =>
        go_light
        refine ⟨k + 1, by omega, by go_num, ?_⟩
        obtain ⟨q, rfl⟩ := hdr.out
        exact ⟨_, World.drewN_drewN _ _ _⟩
    · obtain rfl : k = n := by omega
      go_wp2_with fail
      go_ret
      exact ⟨rfl, hdr.out⟩
end Go.Proofs.Ytdfpcnldfibceaa.Huff

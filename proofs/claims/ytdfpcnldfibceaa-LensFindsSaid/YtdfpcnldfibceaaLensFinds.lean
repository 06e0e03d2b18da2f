/-
  The walk of the statement LensFinds.
-/
import Derived.Test.YtdfpcnldfibceaaRefLens
import Derived.Test.YtdfpcnldfibceaaLensRare
namespace Go.Proofs.Ytdfpcnldfibceaa.Lens
open Go.RowKit Go.Proofs.Ytdfpcnldfibceaa.Mem Go.Proofs.Ytdfpcnldfibceaa.Own Go.Proofs.Ytdfpcnldfibceaa.Srt Go.Proofs.Ytdfpcnldfibceaa.Canon

set_option maxRecDepth 100000 in
theorem rlens_bad (w : World) (A : Option Addr) (n c : Nat) (ks : List Nat) (limit : Int) (hn : ks.length = n) (hN : n ≤ 9223372036854775807) (hl1 : -9223372036854775808 ≤ limit) (hl2 : limit ≤ 9223372036854775807) (h : n > 300 ∨ limit < 1 ∨ limit > 15) :
    Calls Try.prog 70 #[.slice A n c, .int .i64 limit] w (LensPost ks limit w) := by
  have hE : Hid (lensE ks limit = 13) := by show _ = _; unfold lensE; rw [hn, if_pos h]
  clear hn
  by_cases h1 : 300 < n
  · clear h
    go_enter Try.func70, Try.ntmps70
    go_wp2_with fail
    go_ret2
    exact lensPost_no (by decide) hE.out rfl (Below.refl _ _)
  · have g1 : decide ((300 : Int) < (n : Int)) = false := by simp; omega
    have g2 : decide (300 < n) = false := by simp; omega
    by_cases h2 : limit < 1
    · clear h
      have g3 : decide (limit < 1) = true := by simpa using h2
      go_enter Try.func70, Try.ntmps70
      go_wp2_with fail
      go_ret2
      exact lensPost_no (by decide) hE.out rfl (Below.refl _ _)
    · have h3 : 15 < limit := by omega
      have g3 : decide (limit < 1) = false := by simp; omega
      have g4 : decide (15 < limit) = true := by simpa using h3
      clear h
      go_enter Try.func70, Try.ntmps70
      go_wp2_with fail
      go_ret2
      exact lensPost_no (by decide) hE.out rfl (Below.refl _ _)
theorem rlens_any (w : World) (A : Option Addr) (n c : Nat) (ks : List Nat) (limit : Int) (hn : ks.length = n) (hN : n ≤ 9223372036854775807) (hl1 : -9223372036854775808 ≤ limit) (hl2 : limit ≤ 9223372036854775807) (h32 : ∀ x ∈ ks, x < 4294967296) (ha : Row w w.heap.size A n 1 (numF .u32 ks)) :
    Calls Try.prog 70 #[.slice A n c, .int .i64 limit] w (LensPost ks limit w) := by
  by_cases h : n > 300 ∨ limit < 1 ∨ limit > 15
  · exact rlens_bad w A n c ks limit hn hN hl1 hl2 h
  · obtain ⟨L, rfl⟩ : ∃ L : Nat, limit = L := ⟨limit.toNat, by omega⟩
    exact rlens_ok w A n c L ks hn (by omega) (by omega) (by omega) h32 ha

theorem law_finds_long (w : World) (A : Option Addr) (n c : Nat) (limit : Int) (_hn : n ≤ 9223372036854775807) (h : 400 < n) :
    Calls Try.prog 16 #[.slice A n c, .int .i64 limit] w fun e w' => e = .returned (.bool true) ∧ Below w.heap.size w w' := by
  go_enter Try.func16, Try.ntmps16
  go_wp2_with fail
  refine (alive07 _).mono ?_
  rintro e w1 ⟨rfl, hb1⟩
  go_wp2_with fail
  go_ret
  exact ⟨rfl, hb1⟩

set_option maxHeartbeats 400000 in
set_option maxRecDepth 100000 in
theorem law_finds (w : World) (A : Option Addr) (n c : Nat) (ks : List Nat) (limit : Int) (hn : ks.length = n) (hN : n ≤ 400) (hl1 : -9223372036854775808 ≤ limit) (hl2 : limit ≤ 9223372036854775807) (h32 : ∀ x ∈ ks, x < 4294967296) (ha : Row w w.heap.size A n 1 (numF .u32 ks)) :
    Calls Try.prog 16 #[.slice A n c, .int .i64 limit] w fun e w' => e = .returned (.bool true) ∧ Below w.heap.size w w' := by
  have C1 := fun wx (h : Below w.heap.size w wx) => lens_any wx A n c ks limit hn (by omega) hl1 hl2 h32 ((ha.below h).mono h.size)
  have C2 := fun wx (h : Below w.heap.size w wx) => rlens_any wx A n c ks limit hn (by omega) hl1 hl2 h32 ((ha.below h).mono h.size)
  unfold LensPost at C1 C2
  have S1 := Lib.hid (lensO_small (ks := ks) (limit := limit))
  have g1 : decide ((400 : Int) < (n : Int)) = false := by simp; omega
  have g2 : decide (400 < n) = false := by simp; omega
  generalize lensE ks limit = er at *
  generalize lensO ks limit = l at *
  obtain ⟨q, hq⟩ : ∃ q, l.length = q := ⟨_, rfl⟩
  rw [hq] at C1 C2
  have HQ := Lib.hid hq
  have D1 := Lib.hid C1
  have D2 := Lib.hid C2
  clear hn h32 ha C1 C2 hq
  go_enter Try.func16, Try.ntmps16
  go_wp2_with fail
  refine (alive07 _).mono ?_
  rintro e w1 ⟨rfl, hb1⟩
  go_wp2_with fail
  refine (D1.out _ hb1).mono ?_
  rintro e w2 ⟨A2, c2, rfl, hr2, hwf2, hb2⟩
  have hb12 : Below w.heap.size w w2 := bel_step hb2 hb1.size hb1
  go_wp2_with fail
  refine (D2.out _ hb12).mono ?_
  rintro e w3 ⟨A3, c3, rfl, hr3, hwf3, hb3⟩
  have hb13 : Below w.heap.size w w3 := bel_step hb3 hb12.size hb12
  have C3 := Lib.hid (Huff.same_any w3 A2 A3 q q c2 c3 l l HQ.out HQ.out (fun h => (hwf2.1 h).1) (fun h => (hwf3.1 h).1) S1.out S1.out ((hr2.below hb3).mono hb3.size) hr3)
  clear hr2 hr3 hwf2 hwf3
  go_wp2_with fail
  refine C3.out.mono ?_
  rintro e w4 ⟨rfl, rfl⟩
  go_wp2_with fail
  go_ret
  exact ⟨by simp, hb13⟩
end Go.Proofs.Ytdfpcnldfibceaa.Lens

/-
  The walk of firkinref07.Lens, whatever comes in.
-/
import Derived.Test.YtloakdiioaodaaaRefLens
namespace Go.Proofs.Ytloakdiioaodaaa.Lens
open Go.RowKit Go.Proofs.Ytloakdiioaodaaa.Mem Go.Proofs.Ytloakdiioaodaaa.Own Go.Proofs.Ytloakdiioaodaaa.Srt Go.Proofs.Ytloakdiioaodaaa.Canon

set_option maxRecDepth 100000 in
theorem rlens_bad (w : World) (A : Option Addr) (n c : Nat) (ks : List Nat) (limit : Int) (hn : ks.length = n) (hN : n ≤ 9223372036854775807) (hl1 : -9223372036854775808 ≤ limit) (hl2 : limit ≤ 9223372036854775807) (h : n > 300 ∨ limit < 1 ∨ limit > 15) :
    Calls Try.prog 34 #[.slice A n c, .int .i64 limit] w (LensPostN ks limit w) := by
  have hE : Hid (lensE ks limit = 13) := by show _ = _; unfold lensE; rw [hn, if_pos h]
  clear hn
  by_cases h1 : 300 < n
  · clear h
    go_enter Try.func34, Try.ntmps34
    go_wp2_with fail
    go_ret2
    exact lensPost_no (by decide) hE.out rfl (Below.refl _ _)
  · have g1 : decide ((300 : Int) < (n : Int)) = false := by simp; omega
    have g2 : decide (300 < n) = false := by simp; omega
    by_cases h2 : limit < 1
    · clear h
      have g3 : decide (limit < 1) = true := by simpa using h2
      go_enter Try.func34, Try.ntmps34
      go_wp2_with fail
      go_ret2
      exact lensPost_no (by decide) hE.out rfl (Below.refl _ _)
    · have h3 : 15 < limit := by omega
      have g3 : decide (limit < 1) = false := by simp; omega
      have g4 : decide (15 < limit) = true := by simpa using h3
      clear h
      go_enter Try.func34, Try.ntmps34
      go_wp2_with fail
      go_ret2
      exact lensPost_no (by decide) hE.out rfl (Below.refl _ _)
theorem rlens_new (w : World) (A : Option Addr) (n c : Nat) (ks : List Nat) (limit : Int) (hn : ks.length = n) (hN : n ≤ 9223372036854775807) (hl1 : -9223372036854775808 ≤ limit) (hl2 : limit ≤ 9223372036854775807) (h32 : ∀ x ∈ ks, x < 4294967296) (ha : Row w w.heap.size A n 1 (numF .u32 ks)) :
    Calls Try.prog 34 #[.slice A n c, .int .i64 limit] w (LensPostN ks limit w) := by
  by_cases h : n > 300 ∨ limit < 1 ∨ limit > 15
  · exact rlens_bad w A n c ks limit hn hN hl1 hl2 h
  · obtain ⟨L, rfl⟩ : ∃ L : Nat, limit = L := ⟨limit.toNat, by omega⟩
    exact rlens_ok w A n c L ks hn (by omega) (by omega) (by omega) h32 ha

theorem rlens_any (w : World) (A : Option Addr) (n c : Nat) (ks : List Nat) (limit : Int) (hn : ks.length = n) (hN : n ≤ 9223372036854775807) (hl1 : -9223372036854775808 ≤ limit) (hl2 : limit ≤ 9223372036854775807) (h32 : ∀ x ∈ ks, x < 4294967296) (ha : Row w w.heap.size A n 1 (numF .u32 ks)) :
    Calls Try.prog 34 #[.slice A n c, .int .i64 limit] w (LensPost ks limit w) := (rlens_new w A n c ks limit hn hN hl1 hl2 h32 ha).mono fun _ _ h => h.post
end Go.Proofs.Ytloakdiioaodaaa.Lens

/-
  The walk of the statement ToksReads.
-/
import Derived.Test.YtdfpcnldfibceaaToksRef2
import Derived.Test.YtdfpcnldfibceaaToksMay
namespace Go.Proofs.Ytdfpcnldfibceaa.Huff
open Go.RowKit Go.Proofs.Ytdfpcnldfibceaa.Mem Go.Proofs.Ytdfpcnldfibceaa.Canon Go.Proofs.Ytdfpcnldfibceaa.Own
open Go.Proofs.Ytdfpcnldfibceaa.Toks (Tk Pc joinT joinE pw mayB alive11)

set_option maxHeartbeats 1000000 in
theorem same_toks (w : World) (A B : Option Addr) (n c d BA BB : Nat) (l : List Tk) (hn : l.length = n) (hN : n ≤ 9223372036854775807) (ha : Row w BA A n 3 (tkF l)) (hb : Row w BB B n 3 (tkF l)) :
    Calls Try.prog 80 #[.slice A n c, .slice B n d] w fun e w' => e = .returned (.bool true) ∧ ∃ q, w' = w.drewN q := by
  have HN := Lib.hid hn
  clear hn
  go_enter Try.func80, Try.ntmps80
  go_wp2_with fail
  go_loopw [5] (fun i wr => ∃ k : Nat, k ≤ n ∧ i = .int .i64 k ∧ Hid (∃ q, wr = w.drewN q)) (fun i _ => n - (intOf i).toNat)
  case atStart => exact ⟨0, by omega, rfl, ⟨0, rfl⟩⟩
  case round =>
    obtain ⟨k, hk, rfl, hdr⟩ := hrel
    by_cases hlt : k < n
    · have ha1 : Row wr BA A n 3 (tkF l) := by obtain ⟨q, hq⟩ := hdr.out; rw [hq]; exact ha
      have hb1 : Row wr BB B n 3 (tkF l) := by obtain ⟨q, hq⟩ := hdr.out; rw [hq]; exact hb
      obtain ⟨b, off, rfl, _, hcell⟩ := ha1 (by omega)
      obtain ⟨b', off', rfl, _, hcell'⟩ := hb1 (by omega)
      have hkl : k < l.length := by rw [HN.out]; exact hlt
      have c0 := hcell k 0 hlt (by omega)
      have c1 := hcell k 1 hlt (by omega)
      have c2 := hcell k 2 hlt (by omega)
      have d0 := hcell' k 0 hlt (by omega)
      have d1 := hcell' k 1 hlt (by omega)
      have d2 := hcell' k 2 hlt (by omega)
      simp only [tkF, Nat.add_zero, ← Nat.add_assoc] at c0 c1 c2 d0 d1 d2
      generalize l.getD k tkd = y at *
      obtain ⟨y0, y1, y2⟩ := y
      simp only at c0 c1 c2 d0 d1 d2
      have x0 : (0 : Int) ≤ (k : Int) := by omega
      have x1 : (k : Int) < (n : Int) := by omega
      clear ha1 hb1 hcell hcell' hkl
      go_wp2_with fail
      go_quiet (fail)
      go_wp2_with fail
      go_roundw
      case measure => go_light; simp [intOf]; omega
      case rel =>
        go_light
        refine ⟨k + 1, by omega, by go_num, ?_⟩
        obtain ⟨q, rfl⟩ := hdr.out
        exact ⟨_, World.drewN_drewN _ _ _⟩
    · obtain rfl : k = n := by omega
      go_wp2_with fail
      go_ret
      exact ⟨rfl, hdr.out⟩

theorem law_reads_long (w : World) (A : Option Addr) (n c : Nat) (most : Int) (_hn : n ≤ 9223372036854775807) (h3 : (600 : Int) < (n : Int)) :
    Calls Try.prog 24 #[.slice A n c, .int .i64 most] w fun e w' => e = .returned (.bool true) ∧ Below w.heap.size w w' := by
  go_enter Try.func24, Try.ntmps24
  go_wp2_with fail
  refine (alive11 _).mono ?_
  rintro e w1 ⟨rfl, hb1⟩
  go_wp2_with fail
  go_ret
  exact ⟨rfl, hb1⟩
theorem rtread_all (w : World) (A : Option Addr) (n c : Nat) (lb : List Nat) (most : Int) (hm : -9223372036854775808 ≤ most ∧ most ≤ 9223372036854775807) (hn : lb.length = n) (hN : n ≤ 100000) (h8 : ∀ x ∈ lb, x ≤ 255) (ha : Row w w.heap.size A n 1 (numF .u8 lb)) :
    Calls Try.prog 79 #[.slice A n c, .int .i64 most] w (TRPost (readToks lb most) w) := by
  by_cases h : most < 0
  · exact rtread_neg w _ lb most hm.1 h
  · exact rtread_any w A n c lb most (by omega) hm.2 hn hN h8 ha

set_option maxHeartbeats 1000000 in
set_option maxRecDepth 100000 in
theorem law_reads (w : World) (A : Option Addr) (n c : Nat) (lb : List Nat) (most : Int) (hm : -9223372036854775808 ≤ most ∧ most ≤ 9223372036854775807) (hn : lb.length = n) (hN : n ≤ 600) (h8 : ∀ x ∈ lb, x ≤ 255) (hnil : A = none → n = 0 ∧ c = 0) (ha : Row w w.heap.size A n 1 (numF .u8 lb)) :
    Calls Try.prog 24 #[.slice A n c, .int .i64 most] w fun e w' => e = .returned (.bool true) ∧ Below w.heap.size w w' := by
  have C1 := fun wx (h : Below w.heap.size w wx) => tread_all wx A n c lb most hm hn (by omega) h8 hnil ((ha.below h).mono h.size)
  have C2 := fun wx (h : Below w.heap.size w wx) => rtread_all wx A n c lb most hm hn (by omega) h8 ((ha.below h).mono h.size)
  have hlen := readToks_len lb most
  rw [hn] at hlen
  unfold TRPost at C1 C2
  generalize readToks lb most = R at C1 C2 hlen
  obtain ⟨ts, e⟩ := R
  simp only at C1 C2 hlen
  have C1 := Lib.hid C1
  have C2 := Lib.hid C2
  obtain ⟨N, hN2⟩ : ∃ N, N = ts.length := ⟨_, rfl⟩
  rw [← hN2] at C1 C2 hlen
  have HN := Lib.hid hN2
  clear hn h8 hnil ha hm hN2
  go_enter Try.func24, Try.ntmps24
  go_wp2_with fail
  refine (alive11 _).mono ?_
  rintro e w1 ⟨rfl, hb1⟩
  have z1 := hb1.size
  go_wp2_with fail
  refine (C1.out _ hb1).mono ?_
  rintro e w2 ⟨v, rfl, hown, hb2⟩
  have hb2 : Below w.heap.size w w2 := bel_step hb2 z1 hb1
  have z2 := hb2.size
  obtain ⟨va, vc, rfl⟩ := own_shape hown
  have hrow : Row w2 w2.heap.size va N 3 (tkF ts) := Row.of_own hown rfl (fun i j hi hj => tksL_get ts i j (by rw [← HN.out]; exact hi) hj)
  clear hown C1
  go_wp2_with fail
  refine (C2.out _ hb2).mono ?_
  rintro e w3 ⟨v, rfl, hown, hb3⟩
  obtain ⟨ua, uc, rfl⟩ := own_shape hown
  have hrow3 : Row w3 w3.heap.size ua N 3 (tkF ts) := Row.of_own hown rfl (fun i j hi hj => tksL_get ts i j (by rw [← HN.out]; exact hi) hj)
  have C3 := Lib.hid (same_toks w3 va ua N vc uc _ _ ts HN.out.symm (by omega) (hrow.below hb3) hrow3)
  have hb3 : Below w.heap.size w w3 := bel_step hb3 z2 hb2
  clear hown C2 hrow hrow3
  go_wp2_with fail
  refine C3.out.mono ?_
  rintro e w4 ⟨rfl, q, rfl⟩
  go_wp2_with fail
  go_ret
  exact ⟨rfl, below_drewN hb3 _⟩
end Go.Proofs.Ytdfpcnldfibceaa.Huff

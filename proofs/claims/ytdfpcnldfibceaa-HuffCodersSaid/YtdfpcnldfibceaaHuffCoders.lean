/-
  The walk of the statement HuffCoders.
-/
import Derived.Test.YtdfpcnldfibceaaHuffLaws
namespace Go.Proofs.Ytdfpcnldfibceaa.Huff
open Go.RowKit Go.Proofs.Ytdfpcnldfibceaa.Mem Go.Proofs.Ytdfpcnldfibceaa.Canon Go.Proofs.Ytdfpcnldfibceaa.Own Go.Proofs.Ytdfpcnldfibceaa.Open

theorem law_coders_long (w : World) (A : Option Addr) (n c : Nat) (s : Int) (_hn : n ≤ 9223372036854775807) (h4 : (400 : Int) < (n : Int)) :
    Calls Try.prog 9 #[.slice A n c, .int .i64 s] w fun e w' => e = .returned (.bool true) ∧ Below w.heap.size w w' := by
  go_enter Try.func9, Try.ntmps9
  go_wp2_with fail
  refine (alive09 _).mono ?_
  rintro e w1 ⟨rfl, hb1⟩
  go_wp2_with fail
  go_ret
  exact ⟨rfl, hb1⟩

set_option maxHeartbeats 400000 in
set_option maxRecDepth 100000 in
theorem law_coders_bad (w : World) (A : Option Addr) (n c : Nat) (ls : List Nat) (s : Int) (hs : -9223372036854775808 ≤ s ∧ s ≤ 9223372036854775807) (hn : ls.length = n) (hN : n ≤ 400) (hok : okB ls = false) (ha : Row w w.heap.size A n 1 (numF .u8 ls)) :
    Calls Try.prog 9 #[.slice A n c, .int .i64 s] w fun e w' => e = .returned (.bool true) ∧ Below w.heap.size w w' := by
  have C1 := Lib.hid (fun wx (h : Below w.heap.size w wx) => new_bad wx A n c ls hn (by omega) hok ((ha.below h).mono h.size))
  have C2 := Lib.hid (fun wx (h : Below w.heap.size w wx) => rnew_bad wx A n c ls hn (by omega) hok ((ha.below h).mono h.size))
  have C3 := Lib.hid (fun wx => len_nil wx s)
  obtain ⟨hs1, hs2⟩ := hs
  clear hn ha hok
  go_enter Try.func9, Try.ntmps9
  go_wp2_with fail
  refine (alive09 _).mono ?_
  rintro e w1 ⟨rfl, hb1⟩
  have z1 := hb1.size
  go_wp2_with fail
  refine (C1.out _ hb1).mono ?_
  rintro e w2 ⟨rfl, hb2⟩
  have z2 := hb2.size
  have hbel2 : Below w.heap.size w w2 := bel_step hb2 z1 hb1
  go_wp2_with fail
  refine (C2.out _ hbel2).mono ?_
  rintro e w3 ⟨rfl, hb3⟩
  have z3 := hb3.size
  have hbel3 : Below w.heap.size w w3 := bel_step hb3 (by omega) hbel2
  by_cases h0 : s < 0
  · go_wp2_with fail
    refine (C3.out _).mono ?_
    rintro e w4 ⟨rfl, rfl⟩
    go_wp2_with fail
    go_ret
    exact ⟨rfl, bel_alloc (by omega) hbel3⟩
  · go_wp2_with fail
    refine (C3.out _).mono ?_
    rintro e w4 ⟨rfl, rfl⟩
    go_wp2_with fail
    go_ret
    exact ⟨rfl, bel_alloc (by omega) hbel3⟩

set_option maxHeartbeats 400000 in
set_option maxRecDepth 100000 in
theorem law_coders_ok (w : World) (A : Option Addr) (n c : Nat) (ls : List Nat) (s : Int) (hs : -9223372036854775808 ≤ s ∧ s ≤ 9223372036854775807) (hn : ls.length = n) (hnil : A = none → n = 0 ∧ c = 0) (hok : okB ls = true) (ha : Row w w.heap.size A n 1 (numF .u8 ls)) :
    Calls Try.prog 9 #[.slice A n c, .int .i64 s] w fun e w' => e = .returned (.bool true) ∧ Below w.heap.size w w' := by
  obtain ⟨hlen, hsm, _⟩ := ok_parts hok
  rw [hn] at hlen
  have C1 := Lib.hid (fun wx (h : Below w.heap.size w wx) => new_any wx A n c ls hn hok hnil ((ha.below h).mono h.size))
  have C2 := Lib.hid (fun wx (h : Below w.heap.size w wx) => rnew_any wx A n c ls hn hok hnil ((ha.below h).mono h.size))
  have HN := Lib.hid hn
  have HSM := Lib.hid hsm
  have HS := Lib.hid hs
  obtain ⟨hs1, hs2⟩ := hs
  clear hn ha hok hsm hnil
  go_enter Try.func9, Try.ntmps9
  go_wp2_with fail
  refine (alive09 _).mono ?_
  rintro e w1 ⟨rfl, hb1⟩
  have z1 := hb1.size
  go_wp2_with fail
  refine (C1.out _ hb1).mono ?_
  rintro e w2 ⟨gc, rfl, hC, hb2⟩
  have z2 := hb2.size
  have hbel2 : Below w.heap.size w w2 := bel_step hb2 z1 hb1
  go_wp2_with fail
  refine (C2.out _ hbel2).mono ?_
  rintro e w3 ⟨vl, vc, rfl, hR, hb3⟩
  have z3 := hb3.size
  have hbel3 : Below w.heap.size w w3 := bel_step hb3 (by omega) hbel2
  obtain ⟨AL, cL, rfl, hrl⟩ := hR.lens
  obtain ⟨AC, cC, rfl, _⟩ := hR.codes
  have C3 := Lib.hid (fun wx (h : Below w3.heap.size w3 wx) => ((hC.below hb3 (Nat.le_refl _)).below h (by omega)).len HSM.out s HS.out)
  rw [HN.out] at hrl ⊢
  have HRL := Lib.hid hrl
  clear hC hR hrl hb3
  by_cases h0 : s < 0
  · have hl : lenAt ls s = 0 := by unfold lenAt; rw [if_pos h0]
    rw [hl] at C3
    clear hl
    go_wp2_with fail
    refine (C3.out _ (bel_alloc0 (Below.refl _ _))).mono ?_
    rintro e w4 ⟨rfl, rfl⟩
    go_wp2_with fail
    go_ret
    exact ⟨rfl, bel_alloc (by omega) hbel3⟩
  · obtain ⟨m, rfl⟩ := Int.eq_ofNat_of_zero_le (show 0 ≤ s by omega)
    have x0 : (0 : Int) ≤ (m : Int) := by omega
    by_cases hm : m < n
    · obtain ⟨b, off, x, rfl, hbb, hx, d0⟩ := num_cell HRL.out.row HN.out hm
      have hl : lenAt ls (m : Int) = x := by unfold lenAt; rw [if_neg h0]; simp [List.getD_eq_getElem?_getD, hx]
      rw [hl] at C3
      have hx15 := HSM.out x (List.mem_of_getElem? hx)
      have x1 : (m : Int) < (n : Int) := by omega
      have d1 : (w3.alloc (.cells #[.slice (some ⟨b, off, none⟩) n cL, .slice AC n cC] 62)).cell? ⟨b, off + m, none⟩ = some (.int .u8 x) := (World.cell?_of_block (a := ⟨b, off + m, none⟩) (Below.heap_alloc w3 _ b (by omega))).trans d0
      clear hl hx h0
      go_wp2_with fail
      refine (C3.out _ (bel_alloc0 (Below.refl _ _))).mono ?_
      rintro e w4 ⟨rfl, rfl⟩
      go_wp2_with fail
      go_ret
      exact ⟨by simp, bel_alloc (by omega) hbel3⟩
    · have hl : lenAt ls (m : Int) = 0 := by
        unfold lenAt; rw [if_neg h0]
        simp [List.getD_eq_getElem?_getD, List.getElem?_eq_none (show ls.length ≤ m by have := HN.out; omega)]
      rw [hl] at C3
      have x1 : ¬ (m : Int) < (n : Int) := by omega
      clear hl h0
      go_wp2_with fail
      refine (C3.out _ (bel_alloc0 (Below.refl _ _))).mono ?_
      rintro e w4 ⟨rfl, rfl⟩
      go_wp2_with fail
      go_ret
      exact ⟨rfl, bel_alloc (by omega) hbel3⟩
end Go.Proofs.Ytdfpcnldfibceaa.Huff

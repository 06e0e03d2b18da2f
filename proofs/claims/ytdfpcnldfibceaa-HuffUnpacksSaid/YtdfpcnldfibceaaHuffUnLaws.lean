/-
  The walks of the statements HuffUnpacks and HuffBack.
-/
import Derived.Test.YtdfpcnldfibceaaRefUnpack
import Derived.Test.YtdfpcnldfibceaaHuffLaws
namespace Go.Proofs.Ytdfpcnldfibceaa.Huff
open Go.RowKit Go.Proofs.Ytdfpcnldfibceaa.Mem Go.Proofs.Ytdfpcnldfibceaa.Canon Go.Proofs.Ytdfpcnldfibceaa.Own Go.Proofs.Ytdfpcnldfibceaa.Open

theorem own_ints {w : World} {base c n : Nat} {A : Option Addr} {l : List Int} (ho : w.ownsRow base 3 1 (.slice A n c) l.length (intL l)) : l.length = n ∧ Row w w.heap.size A n 1 (intF .i64 l) ∧ n ≤ 9223372036854775807 := by
  have hn : l.length = n := by
    rcases ho.2 with ⟨hv, hx⟩ | ⟨g, cap, cur, hv, _⟩
    · injection hv with _ e _
      exact hx.trans e.symm
    · injection hv with _ e _
      exact e.symm
  rw [hn] at ho
  refine ⟨hn, Row.of_own ho rfl (fun i j hi hj => by
    have e0 : j = 0 := (by omega)
    subst e0
    have hl : i < l.length := by omega
    simp [intL, intF, List.getD_eq_getElem?_getD, hl]), ?_⟩
  rcases ho.2 with ⟨_, h0⟩ | ⟨g, cap, cur, _, _, _, h1, h2, _⟩
  · omega
  · unfold maxLen at h2; omega

theorem unpack_all (w : World) (A B : Option Addr) (n c m d : Nat) (N : Int) (ls lb : List Nat) (hN : -9223372036854775808 ≤ N ∧ N ≤ 9223372036854775807) (hn : ls.length = n) (hn2 : n ≤ 9223372036854775807) (hnil : A = none → n = 0 ∧ c = 0) (ha : Row w w.heap.size A n 1 (numF .u8 ls))
    (hm : lb.length = m) (hM : m ≤ 100000) (hb8 : ∀ x ∈ lb, x ≤ 255) (hnil2 : B = none → m = 0 ∧ d = 0) (hb : Row w w.heap.size B m 1 (numF .u8 lb)) :
    Calls Try.prog 71 #[.slice A n c, .int .i64 N, .slice B m d] w (UnPost (unpackR ls N lb) w) := by
  by_cases h : N < 0 ∨ 100000 < N
  · exact unpack_range w A B n c m d N ls lb hN.1 hN.2 h
  · obtain ⟨k, rfl⟩ := Int.eq_ofNat_of_zero_le (show 0 ≤ N by omega)
    cases hok : okB ls
    · exact unpack_bad w A B n c m d k ls lb (by omega) hn hn2 hok ha
    · exact unpack_ok w A B n c m d k ls lb (by omega) hn hok hnil ha hm hM hb8 hnil2 hb
theorem runpack_all (w : World) (A B : Option Addr) (n c m d : Nat) (N : Int) (ls lb : List Nat) (hN : -9223372036854775808 ≤ N ∧ N ≤ 9223372036854775807) (hn : ls.length = n) (hn2 : n ≤ 9223372036854775807) (hnil : A = none → n = 0 ∧ c = 0) (ha : Row w w.heap.size A n 1 (numF .u8 ls))
    (hm : lb.length = m) (hM : m ≤ 100000) (hb8 : ∀ x ∈ lb, x ≤ 255) (hb : Row w w.heap.size B m 1 (numF .u8 lb)) :
    Calls Try.prog 72 #[.slice A n c, .int .i64 N, .slice B m d] w (UnPost (unpackR ls N lb) w) := by
  by_cases h : N < 0 ∨ 100000 < N
  · exact runpack_range w A B n c m d N ls lb hN.1 hN.2 h
  · obtain ⟨k, rfl⟩ := Int.eq_ofNat_of_zero_le (show 0 ≤ N by omega)
    cases hok : okB ls
    · exact runpack_bad w A B n c m d k ls lb (by omega) hn hn2 hok ha
    · exact runpack_ok w A B n c m d k ls lb (by omega) hn hok hnil ha hm hM hb8 hb

theorem law_unpacks_long (w : World) (A B : Option Addr) (n c m d : Nat) (u : Value) (_hn : n ≤ 9223372036854775807) (_hm : m ≤ 9223372036854775807) (h : (400 : Int) < (n : Int) ∨ (200 : Int) < (m : Int)) :
    Calls Try.prog 18 #[.slice A n c, u, .slice B m d] w fun e w' => e = .returned (.bool true) ∧ Below w.heap.size w w' := by
  by_cases h4 : (400 : Int) < (n : Int)
  · clear h
    go_enter Try.func18, Try.ntmps18
    go_wp2_with fail
    refine (alive09 _).mono ?_
    rintro e w1 ⟨rfl, hb1⟩
    go_wp2_with fail
    go_ret
    exact ⟨rfl, hb1⟩
  · have h3 : (200 : Int) < (m : Int) := by omega
    clear h
    go_enter Try.func18, Try.ntmps18
    go_wp2_with fail
    refine (alive09 _).mono ?_
    rintro e w1 ⟨rfl, hb1⟩
    go_wp2_with fail
    go_ret
    exact ⟨rfl, hb1⟩

set_option maxRecDepth 100000 in
theorem law_unpacks (w : World) (A B : Option Addr) (n c m d : Nat) (N : Int) (ls lb : List Nat) (hN : -9223372036854775808 ≤ N ∧ N ≤ 9223372036854775807) (hn : ls.length = n) (hn4 : n ≤ 400) (hnil : A = none → n = 0 ∧ c = 0) (ha : Row w w.heap.size A n 1 (numF .u8 ls))
    (hm : lb.length = m) (hM : m ≤ 200) (hb8 : ∀ x ∈ lb, x ≤ 255) (hnil2 : B = none → m = 0 ∧ d = 0) (hb : Row w w.heap.size B m 1 (numF .u8 lb)) :
    Calls Try.prog 18 #[.slice A n c, .int .i64 N, .slice B m d] w fun e w' => e = .returned (.bool true) ∧ Below w.heap.size w w' := by
  have C1 := Lib.hid (fun wx (h : Below w.heap.size w wx) => unpack_all wx A B n c m d N ls lb hN hn (by omega) hnil ((ha.below h).mono h.size) hm (by omega) hb8 hnil2 ((hb.below h).mono h.size))
  have C2 := Lib.hid (fun wx (h : Below w.heap.size w wx) => runpack_all wx A B n c m d N ls lb hN hn (by omega) hnil ((ha.below h).mono h.size) hm (by omega) hb8 ((hb.below h).mono h.size))
  generalize unpackR ls N lb = R at *
  obtain ⟨out, er⟩ := R
  unfold UnPost at C1 C2
  simp only at C1 C2
  clear hN hn hnil ha hm hb8 hnil2 hb
  go_enter Try.func18, Try.ntmps18
  go_wp2_with fail
  refine (alive09 _).mono ?_
  rintro e w1 ⟨rfl, hb1⟩
  have z1 := hb1.size
  go_wp2_with fail
  refine (C1.out _ hb1).mono ?_
  rintro e w2 ⟨v2, rfl, hv2, hb2⟩
  have z2 := hb2.size
  have hbel2 : Below w.heap.size w w2 := bel_step hb2 z1 hb1
  obtain ⟨A2, c2, rfl⟩ := own_shape hv2
  go_wp2_with fail
  refine (C2.out _ hbel2).mono ?_
  rintro e w3 ⟨v3, rfl, hv3, hb3⟩
  have hbel3 : Below w.heap.size w w3 := bel_step hb3 (by omega) hbel2
  obtain ⟨A3, c3, rfl⟩ := own_shape hv3
  have q2 := own_ints hv2
  have q3 := own_ints hv3
  have C3 := Lib.hid (same_ints w3 A2 A3 _ c2 c3 _ _ out rfl q3.2.2 (q2.2.1.below hb3) q3.2.1)
  clear q2 q3 hv2 hv3 C1 C2
  go_wp2_with fail
  refine C3.out.mono ?_
  rintro e w4 ⟨rfl, q, rfl⟩
  go_wp2_with fail
  go_ret
  exact ⟨rfl, below_drewN hbel3 q⟩

theorem unpack_back {ls : List Nat} {ss : List Int} (hok : okB ls = true) (hs : ∀ s ∈ ss, lenAt ls s ≠ 0) (hl : ss.length ≤ 100000) : unpackR ls (ss.length : Nat) (bytesOf (packed ls ss)) = (ss, 0) := by
  unfold unpackR
  rw [if_neg (by omega), if_pos hok, Int.toNat_natCast]
  have h := unGo_packed hok (bs := rbits (bytesOf (packed ls ss))) ss [] hs (fun i => rbits_bytesOf_bit _ i) (by rw [rbits_length, bytesOf_length, List.nil_append]; omega) (by rw [rbits_length, bytesOf_length, List.nil_append]; omega)
  exact h

theorem law_back_long (w : World) (A B : Option Addr) (n c m d : Nat) (_hm : m ≤ 9223372036854775807) (h3 : (3000 : Int) < (m : Int)) :
    Calls Try.prog 19 #[.slice A n c, .slice B m d] w fun e w' => e = .returned (.bool true) ∧ Below w.heap.size w w' := by
  go_enter Try.func19, Try.ntmps19
  go_wp2_with fail
  refine (alive09 _).mono ?_
  rintro e w1 ⟨rfl, hb1⟩
  go_wp2_with fail
  go_ret
  exact ⟨rfl, hb1⟩
set_option maxRecDepth 100000 in
theorem law_back (w : World) (A B : Option Addr) (n c m d : Nat) (ls : List Nat) (ss : List Int) (hn : ls.length = n) (hN : n ≤ 9223372036854775807) (hnil : A = none → n = 0 ∧ c = 0) (ha : Row w w.heap.size A n 1 (numF .u8 ls))
    (hm : ss.length = m) (hM : m ≤ 3000) (hss : ∀ s ∈ ss, -9223372036854775808 ≤ s ∧ s ≤ 9223372036854775807) (hb : Row w w.heap.size B m 1 (intF .i64 ss)) :
    Calls Try.prog 19 #[.slice A n c, .slice B m d] w fun e w' => e = .returned (.bool true) ∧ Below w.heap.size w w' := by
  have C1 := Lib.hid (fun wx (h : Below w.heap.size w wx) => pack_all wx A B n c m d ls ss hn hN hnil ((ha.below h).mono h.size) hm hM hss ((hb.below h).mono h.size))
  by_cases hE : packE ls ss = 0
  · have hok : okB ls = true := by
      unfold packE at hE
      by_cases h : okB ls = true
      · exact h
      · rw [if_neg h] at hE; cases hE
    have hall : ∀ s ∈ ss, lenAt ls s ≠ 0 := by
      intro s hs h0
      rw [packE_some hok hs h0] at hE
      cases hE
    have hB : packB ls ss = bytesOf (packed ls ss) := by unfold packB; rw [if_pos hE]
    have hsm := (ok_parts hok).2.1
    have hpl := packed_length ls hsm ss
    have hlb := bytesOf_length (packed ls ss)
    have hR := unpack_back hok hall (by omega)
    have C2 := Lib.hid (fun wx (h : Below w.heap.size w wx) B2 m2 d2 (h1 : (packB ls ss).length = m2) (h2 : Wf B2 m2 d2) h3 => unpack_all wx A B2 n c m2 d2 (ss.length : Nat) ls (packB ls ss) (by omega) hn hN hnil ((ha.below h).mono h.size) h1 (by rw [← h1, hB, hlb]; omega) (packB_le ls ss) h2.1 h3)
    rw [hB] at C2
    rw [hR, hm] at C2
    unfold UnPost at C2
    simp only at C2
    unfold PackPost at C1
    rw [hE, hB] at C1
    have HM := Lib.hid hm
    clear hE hok hall hsm hpl hlb hR hn hnil ha hss hN hm hB
    go_enter Try.func19, Try.ntmps19
    go_wp2_with fail
    refine (alive09 _).mono ?_
    rintro e w1 ⟨rfl, hb1⟩
    have z1 := hb1.size
    go_wp2_with fail
    refine (C1.out _ hb1).mono ?_
    rintro e w2 ⟨v2, rfl, hv2, hb2⟩
    have z2 := hb2.size
    have hbel2 : Below w.heap.size w w2 := bel_step hb2 z1 hb1
    obtain ⟨A2, c2, rfl⟩ := own_shape hv2
    have q2 := own_bytes hv2
    have wf2 := own_wf hv2
    have C3 := Lib.hid (C2.out w2 hbel2 A2 _ c2 q2.1 wf2 q2.2.1)
    clear q2 wf2 hv2 C1 C2
    generalize (bytesOf (packed ls ss)).length = m2 at *
    go_wp2_with fail
    refine C3.out.mono ?_
    rintro e w3 ⟨v3, rfl, hv3, hb3⟩
    have hbel3 : Below w.heap.size w w3 := bel_step hb3 (by omega) hbel2
    obtain ⟨A3, c3, rfl⟩ := own_shape hv3
    have q3 := own_ints hv3
    have hb' := hb.below hbel3
    rw [HM.out] at q3 ⊢
    have C4 := Lib.hid (same_ints w3 A3 B m c3 d _ _ ss HM.out (by omega) q3.2.1 hb')
    clear q3 hv3 hb' C3 hb
    go_wp2_with fail
    refine C4.out.mono ?_
    rintro e w4 ⟨rfl, q, rfl⟩
    go_wp2_with fail
    go_ret
    exact ⟨rfl, below_drewN hbel3 q⟩
  · have hB : packB ls ss = [] := by unfold packB; rw [if_neg hE]
    unfold PackPost at C1
    rw [hB] at C1
    generalize packE ls ss = E at *
    have hEb : (E != 0) = true := bne_iff_ne.mpr hE
    clear hE hn hN hnil ha hm hss hb hB
    go_enter Try.func19, Try.ntmps19
    go_wp2_with fail
    refine (alive09 _).mono ?_
    rintro e w1 ⟨rfl, hb1⟩
    have z1 := hb1.size
    go_wp2_with fail
    refine (C1.out _ hb1).mono ?_
    rintro e w2 ⟨v2, rfl, hv2, hb2⟩
    have hbel2 : Below w.heap.size w w2 := bel_step hb2 z1 hb1
    obtain ⟨A2, c2, rfl⟩ := own_shape hv2
    clear hv2 C1
    go_wp2_with fail
    go_ret
    exact ⟨rfl, hbel2⟩
end Go.Proofs.Ytdfpcnldfibceaa.Huff

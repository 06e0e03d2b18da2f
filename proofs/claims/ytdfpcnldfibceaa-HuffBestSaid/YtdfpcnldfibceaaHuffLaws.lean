/-
  The walks of the example of chapter 09, and of the statements HuffCoders and HuffPacks.
-/
import Derived.Test.YtdfpcnldfibceaaRefPack
import Derived.Test.YtdfpcnldfibceaaRefSame
import Derived.BigGuardPart
namespace Go.Proofs.Ytdfpcnldfibceaa.Huff
open Go.RowKit Go.Proofs.Ytdfpcnldfibceaa.Mem Go.Proofs.Ytdfpcnldfibceaa.Canon Go.Proofs.Ytdfpcnldfibceaa.Own Go.Proofs.Ytdfpcnldfibceaa.Open

theorem own_bytes {w : World} {base c n : Nat} {A : Option Addr} {ls : List Nat} (ho : w.ownsRow base 5 1 (.slice A n c) ls.length (numL .u8 ls)) : ls.length = n ∧ Row w w.heap.size A n 1 (numF .u8 ls) ∧ (A = none → n = 0) := by
  have hn : ls.length = n := by
    rcases ho.2 with ⟨hv, hx⟩ | ⟨g, cap, cur, hv, _⟩
    · injection hv with _ e _
      exact hx.trans e.symm
    · injection hv with _ e _
      exact e.symm
  rw [hn] at ho
  exact ⟨hn, Row.of_own ho rfl (fun i j hi hj => by have e0 : j = 0 := (by omega); subst e0; exact numL_get (by omega)), fun h => ((own_wf ho).1 h).1⟩
theorem packB_le (ls : List Nat) (ss : List Int) : ∀ x ∈ packB ls ss, x ≤ 255 := by
  intro x hx
  unfold packB at hx
  split at hx
  · unfold bytesOf at hx
    obtain ⟨k, _, rfl⟩ := List.mem_map.1 hx
    exact byteAt_le _ _
  · cases hx

theorem alive_ok : okB [1, 3, 3, 2] = true := by decide +kernel
theorem alive_E : packE [1, 3, 3, 2] [0, 3, 1] = 0 := by decide +kernel
theorem alive_B : packB [1, 3, 3, 2] [0, 3, 1] = [88] := by decide +kernel

set_option maxHeartbeats 400000 in
set_option maxRecDepth 100000 in
theorem alive09 (w : World) : Calls Try.prog 44 #[] w fun e w' => e = .returned (.bool true) ∧ Below w.heap.size w w' := by
  have c := fun wx (h1 : Row _ _ _ _ _ _) h2 => pack_any wx (some ⟨w.heap.size, 0, none⟩) (some ⟨w.heap.size + 1, 0, none⟩) 4 4 3 3 [1, 3, 3, 2] [0, 3, 1] rfl alive_ok (fun h => by cases h) h1 rfl (by omega) (by intro s hs; simp at hs; omega) h2
  unfold PackPost at c
  simp only [alive_E, alive_B] at c
  have C := Lib.hid c
  clear c
  go_enter Try.func44, Try.ntmps44
  go_wp2_with fail
  have bA : Blk ((w.alloc (.cells #[.int .u8 1, .int .u8 3, .int .u8 3, .int .u8 2] 5)).alloc (.cells #[.int .i64 0, .int .i64 3, .int .i64 1] 3)) w.heap.size _ _ := (Blk.made w 5 _).alloc _
  have bB : Blk ((w.alloc (.cells #[.int .u8 1, .int .u8 3, .int .u8 3, .int .u8 2] 5)).alloc (.cells #[.int .i64 0, .int .i64 3, .int .i64 1] 3)) (w.heap.size + 1) _ _ := Blk.made_at (w.alloc (.cells #[.int .u8 1, .int .u8 3, .int .u8 3, .int .u8 2] 5)) 3 _ (by simp)
  have hbel : Below w.heap.size w ((w.alloc (.cells #[.int .u8 1, .int .u8 3, .int .u8 3, .int .u8 2] 5)).alloc (.cells #[.int .i64 0, .int .i64 3, .int .i64 1] 3)) := bel_alloc0 (bel_alloc0 (Below.refl _ _))
  have hsz : ((w.alloc (.cells #[.int .u8 1, .int .u8 3, .int .u8 3, .int .u8 2] 5)).alloc (.cells #[.int .i64 0, .int .i64 3, .int .i64 1] 3)).heap.size = w.heap.size + 2 := by simp
  generalize (w.alloc (.cells #[.int .u8 1, .int .u8 3, .int .u8 3, .int .u8 2] 5)).alloc (.cells #[.int .i64 0, .int .i64 3, .int .i64 1] 3) = wx at *
  refine (C.out _ (Row.of_blk bA (by omega) ?_) (Row.of_blk bB (by omega) ?_)).mono ?_
  · intro i j hi hj
    have : (i = 0 ∨ i = 1 ∨ i = 2 ∨ i = 3) ∧ j = 0 := by omega
    obtain ⟨rfl | rfl | rfl | rfl, rfl⟩ := this <;> rfl
  · intro i j hi hj
    have : (i = 0 ∨ i = 1 ∨ i = 2) ∧ j = 0 := by omega
    obtain ⟨rfl | rfl | rfl, rfl⟩ := this <;> rfl
  rintro e w1 ⟨v, rfl, hown, hb1⟩
  have z1 := hb1.size
  have hbel1 : Below w.heap.size w w1 := hbel.trans (hb1.mono (by omega))
  have zz := hbel1.size
  obtain ⟨A1, c1, rfl⟩ := own_shape hown
  have C2 := Lib.hid (fun w2 (hb : Below w1.heap.size w1 w2) h2 => same_any w2 A1 (some ⟨w1.heap.size, 0, none⟩) 1 1 c1 1 [88] [88] rfl rfl (own_bytes hown).2.2 (fun h => by cases h) (by intro x hx; simp at hx; omega) (by intro x hx; simp at hx; omega) (((own_bytes hown).2.1.below hb).mono hb.size) h2)
  clear hown C bA bB hsz hbel hb1
  go_wp2_with fail
  refine (C2.out _ (bel_alloc0 (Below.refl _ _)) (Row.of_blk (Blk.made w1 5 _) (by simp) (fun i j hi hj => by
    have : i = 0 ∧ j = 0 := by omega
    obtain ⟨rfl, rfl⟩ := this
    rfl))).mono ?_
  rintro e w2 ⟨rfl, rfl⟩
  go_wp2_with fail
  go_ret
  exact ⟨rfl, bel_alloc (by omega) hbel1⟩

theorem pack_all (w : World) (A B : Option Addr) (n c m d : Nat) (ls : List Nat) (ss : List Int) (hn : ls.length = n) (hN : n ≤ 9223372036854775807) (hnil : A = none → n = 0 ∧ c = 0) (ha : Row w w.heap.size A n 1 (numF .u8 ls))
    (hm : ss.length = m) (hM : m ≤ 3000) (hss : ∀ s ∈ ss, -9223372036854775808 ≤ s ∧ s ≤ 9223372036854775807) (hb : Row w w.heap.size B m 1 (intF .i64 ss)) :
    Calls Try.prog 48 #[.slice A n c, .slice B m d] w (PackPost ls ss w) := by
  cases hok : okB ls
  · exact pack_bad w A n c ls ss _ hn hN hok ha
  · exact pack_any w A B n c m d ls ss hn hok hnil ha hm hM hss hb
theorem rpack_all (w : World) (A B : Option Addr) (n c m d : Nat) (ls : List Nat) (ss : List Int) (hn : ls.length = n) (hN : n ≤ 9223372036854775807) (hnil : A = none → n = 0 ∧ c = 0) (ha : Row w w.heap.size A n 1 (numF .u8 ls))
    (hm : ss.length = m) (hM : m ≤ 3000) (hss : ∀ s ∈ ss, -9223372036854775808 ≤ s ∧ s ≤ 9223372036854775807) (hb : Row w w.heap.size B m 1 (intF .i64 ss)) :
    Calls Try.prog 49 #[.slice A n c, .slice B m d] w (PackPost ls ss w) := by
  cases hok : okB ls
  · exact rpack_bad w A n c ls ss _ hn hN hok ha
  · exact rpack_any w A B n c m d ls ss hn hok hnil ha hm hM hss hb

theorem law_packs_long (w : World) (A B : Option Addr) (n c m d : Nat) (_hn : n ≤ 9223372036854775807) (_hm : m ≤ 9223372036854775807) (h : (400 : Int) < (n : Int) ∨ (300 : Int) < (m : Int)) :
    Calls Try.prog 10 #[.slice A n c, .slice B m d] w fun e w' => e = .returned (.bool true) ∧ Below w.heap.size w w' := by
  by_cases h4 : (400 : Int) < (n : Int)
  · clear h
    go_enter Try.func10, Try.ntmps10
    go_wp2_with fail
    refine (alive09 _).mono ?_
    rintro e w1 ⟨rfl, hb1⟩
    go_wp2_with fail
    go_ret
    exact ⟨rfl, hb1⟩
  · have h3 : (300 : Int) < (m : Int) := by omega
    clear h
    go_enter Try.func10, Try.ntmps10
    go_wp2_with fail
    refine (alive09 _).mono ?_
    rintro e w1 ⟨rfl, hb1⟩
    go_wp2_with fail
    go_ret
    exact ⟨rfl, hb1⟩

theorem law_packs (w : World) (A B : Option Addr) (n c m d : Nat) (ls : List Nat) (ss : List Int) (hn : ls.length = n) (hN : n ≤ 400) (hnil : A = none → n = 0 ∧ c = 0) (ha : Row w w.heap.size A n 1 (numF .u8 ls))
    (hm : ss.length = m) (hM : m ≤ 300) (hss : ∀ s ∈ ss, -9223372036854775808 ≤ s ∧ s ≤ 9223372036854775807) (hb : Row w w.heap.size B m 1 (intF .i64 ss)) :
    Calls Try.prog 10 #[.slice A n c, .slice B m d] w fun e w' => e = .returned (.bool true) ∧ Below w.heap.size w w' := by
  have C1 := Lib.hid (fun wx (h : Below w.heap.size w wx) => pack_all wx A B n c m d ls ss hn (by omega) hnil ((ha.below h).mono h.size) hm (by omega) hss ((hb.below h).mono h.size))
  have C2 := Lib.hid (fun wx (h : Below w.heap.size w wx) => rpack_all wx A B n c m d ls ss hn (by omega) hnil ((ha.below h).mono h.size) hm (by omega) hss ((hb.below h).mono h.size))
  have HLE := Lib.hid (packB_le ls ss)
  clear hn hnil hm hss ha hb hN hM
  go_enter Try.func10, Try.ntmps10
  go_wp2_with fail
  refine (alive09 _).mono ?_
  rintro e w1 ⟨rfl, hb1⟩
  go_wp2_with fail
  · go_ret
    exact ⟨rfl, hb1⟩
  · go_ret
    exact ⟨rfl, hb1⟩
  refine (C1.out _ hb1).mono ?_
  rintro e w2 ⟨v2, rfl, hv2, hb2⟩
  have z1 := hb1.size
  have hbel2 : Below w.heap.size w w2 := bel_step hb2 z1 hb1
  have z2 := hb2.size
  obtain ⟨A2, c2, rfl⟩ := own_shape hv2
  go_wp2_with fail
  refine (C2.out _ hbel2).mono ?_
  rintro e w3 ⟨v3, rfl, hv3, hb3⟩
  have hbel3 : Below w.heap.size w w3 := bel_step hb3 (by omega) hbel2
  obtain ⟨A3, c3, rfl⟩ := own_shape hv3
  have q2 := own_bytes hv2
  have q3 := own_bytes hv3
  have C3 := same_any w3 A2 A3 _ _ c2 c3 (packB ls ss) (packB ls ss) q2.1 q3.1 q2.2.2 q3.2.2 HLE.out HLE.out ((q2.2.1.below hb3).mono hb3.size) q3.2.1
  rw [decide_eq_true rfl] at C3
  have C3 := Lib.hid C3
  clear q2 q3 hv2 hv3
  go_wp2_with fail
  refine C3.out.mono ?_
  rintro e w4 ⟨rfl, rfl⟩
  go_wp2_with fail
  go_ret
  exact ⟨rfl, hbel3⟩
end Go.Proofs.Ytdfpcnldfibceaa.Huff

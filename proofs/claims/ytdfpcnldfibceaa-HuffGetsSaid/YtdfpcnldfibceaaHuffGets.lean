/-
  The walk of the statement HuffGets.
-/
import Derived.Test.YtdfpcnldfibceaaRefGet
import Derived.Test.YtdfpcnldfibceaaRefReader
import Derived.Test.YtdfpcnldfibceaaHuffLaws
namespace Go.Proofs.Ytdfpcnldfibceaa.Huff
open Go.RowKit Go.Proofs.Ytdfpcnldfibceaa.Mem Go.Proofs.Ytdfpcnldfibceaa.Canon Go.Proofs.Ytdfpcnldfibceaa.Own Go.Proofs.Ytdfpcnldfibceaa.Open

theorem law_gets_long (w : World) (A B : Option Addr) (n c m d : Nat) (u v : Value) (_hn : n ≤ 9223372036854775807) (_hm : m ≤ 9223372036854775807) (h : (400 : Int) < (n : Int) ∨ (200 : Int) < (m : Int)) :
    Calls Try.prog 12 #[.slice A n c, .slice B m d, u, v] w fun e w' => e = .returned (.bool true) ∧ Below w.heap.size w w' := by
  by_cases h4 : (400 : Int) < (n : Int)
  · clear h
    go_enter Try.func12, Try.ntmps12
    go_wp2_with fail
    refine (alive09 _).mono ?_
    rintro e w1 ⟨rfl, hb1⟩
    go_wp2_with fail
    go_ret
    exact ⟨rfl, hb1⟩
  · have h3 : (200 : Int) < (m : Int) := by omega
    clear h
    go_enter Try.func12, Try.ntmps12
    go_wp2_with fail
    refine (alive09 _).mono ?_
    rintro e w1 ⟨rfl, hb1⟩
    go_wp2_with fail
    go_ret
    exact ⟨rfl, hb1⟩

set_option maxRecDepth 100000 in
theorem law_gets_bad (w : World) (A B : Option Addr) (n c m d : Nat) (u v : Value) (ls : List Nat) (hn : ls.length = n) (hN : n ≤ 400) (_hM : m ≤ 200) (hok : okB ls = false) (ha : Row w w.heap.size A n 1 (numF .u8 ls)) :
    Calls Try.prog 12 #[.slice A n c, .slice B m d, u, v] w fun e w' => e = .returned (.bool true) ∧ Below w.heap.size w w' := by
  have C1 := Lib.hid (fun wx (h : Below w.heap.size w wx) => new_bad wx A n c ls hn (by omega) hok ((ha.below h).mono h.size))
  clear hn ha hok
  go_enter Try.func12, Try.ntmps12
  go_wp2_with fail
  refine (alive09 _).mono ?_
  rintro e w1 ⟨rfl, hb1⟩
  have z1 := hb1.size
  go_wp2_with fail
  refine (C1.out _ hb1).mono ?_
  rintro e w2 ⟨rfl, hb2⟩
  go_wp2_with fail
  go_ret
  exact ⟨rfl, bel_step hb2 z1 hb1⟩

set_option maxHeartbeats 2000000 in
set_option maxRecDepth 100000 in
theorem law_gets_ok (w : World) (A B : Option Addr) (n c m d sk mo : Nat) (ls lb : List Nat) (hn : ls.length = n) (hok : okB ls = true) (hnil : A = none → n = 0 ∧ c = 0) (ha : Row w w.heap.size A n 1 (numF .u8 ls))
    (hm : lb.length = m) (hM : m ≤ 200) (hnil2 : B = none → m = 0 ∧ d = 0) (hb8 : ∀ x ∈ lb, x ≤ 255) (hb : Row w w.heap.size B m 1 (numF .u8 lb)) (hsk : sk ≤ 255) (hmo : mo ≤ 255) :
    Calls Try.prog 12 #[.slice A n c, .slice B m d, .int .u8 sk, .int .u8 mo] w fun e w' => e = .returned (.bool true) ∧ Below w.heap.size w w' := by
  have C1 := Lib.hid (fun wx (h : Below w.heap.size w wx) => new_any wx A n c ls hn hok hnil ((ha.below h).mono h.size))
  have C2 := Lib.hid (fun wx (h : Below w.heap.size w wx) => rnew_any wx A n c ls hn hok hnil ((ha.below h).mono h.size))
  have C3 := Lib.hid (fun wx (h : Below w.heap.size w wx) => newreader_any wx B m d lb hm (by omega) hb8 hnil2 ((hb.below h).mono h.size))
  have C4 := Lib.hid (fun wx (h : Below w.heap.size w wx) => rreader_any wx B m d lb hm (by omega) hb8 ((hb.below h).mono h.size))
  have hlen := (ok_parts hok).1
  rw [hn] at hlen
  have HOK := Lib.hid hok
  clear hn ha hok hnil hm hb8 hb hnil2
  go_enter Try.func12, Try.ntmps12
  go_wp2_with fail
  refine (alive09 _).mono ?_
  rintro e w1 ⟨rfl, hb1⟩
  have z1 := hb1.size
  go_wp2_with fail
  refine (C1.out _ hb1).mono ?_
  rintro e w2 ⟨gc, rfl, hC, hb2⟩
  have z2 := hb2.size
  have hbel2 : Below w.heap.size w w2 := bel_step hb2 z1 hb1
  go_wp2_with fail
  refine (C2.out _ hbel2).mono ?_
  rintro e w3 ⟨vl, vc, rfl, hR, hb3⟩
  have z3 := hb3.size
  have hbel3 : Below w.heap.size w w3 := bel_step hb3 (by omega) hbel2
  obtain ⟨AL, cL, rfl, _⟩ := hR.lens
  obtain ⟨AC, cC, rfl, _⟩ := hR.codes
  obtain ⟨nl, hnl⟩ : ∃ nl, nl = ls.length := ⟨_, rfl⟩
  rw [← hnl] at hR ⊢
  clear hnl
  have HC := Lib.hid hC
  have HR := Lib.hid hR
  clear hC hR C1 C2
  go_wp2_with fail
  have hbel4 : Below w3.heap.size w3 (w3.alloc (.cells #[.slice AL nl cL, .slice AC nl cC] 62)) := bel_alloc0 (Below.refl _ _)
  have blk4 : Blk (w3.alloc (.cells #[.slice AL nl cL, .slice AC nl cC] 62)) w3.heap.size 62 #[.slice AL nl cL, .slice AC nl cC] := Blk.made _ _ _
  generalize w3.alloc (.cells #[.slice AL nl cL, .slice AC nl cC] 62) = w4 at *
  have z4 := blk4.lt
  refine (C3.out _ (hbel3.trans (hbel4.mono (by omega)))).mono ?_
  rintro e w5 ⟨g, rfl, hRd, hg, hb5⟩
  have z5 := hb5.size
  have hgl := hRd.lt
  go_wp2_with fail
  refine (C4.out _ (bel_step hb5 (by omega) (hbel3.trans (hbel4.mono (by omega))))).mono ?_
  rintro e w6 ⟨g2, rfl, hRR, hg2, hb6⟩
  have z6 := hb6.size
  have b26 : Below w2.heap.size w2 w6 := ((hb3.trans (hbel4.mono z3)).trans (hb5.mono (by omega))).trans (hb6.mono (by omega))
  have b36 : Below w3.heap.size w3 w6 := (hbel4.trans (hb5.mono (by omega))).trans (hb6.mono (by omega))
  have b46 : Below w4.heap.size w4 w6 := hb5.trans (hb6.mono (by omega))
  have HC6 : Hid (Coder w6 w1.heap.size w2.heap.size gc ls) := HC.out.below b26 (Nat.le_refl _)
  have HR6 : Hid (RCo w6 w2.heap.size w3.heap.size (.slice AL nl cL) (.slice AC nl cC) ls) := HR.out.kept (Kept.of_below b36 (fun k (h : k < w3.heap.size) => h)) (fun _ _ h => h)
  have HB6 : Hid (Blk w6 w3.heap.size 62 #[.slice AL nl cL, .slice AC nl cC]) := blk4.below b46 z4
  have HRd6 : Hid (Rd w6 w4.heap.size g (rbits lb) 0) := hRd.keep (fun b _ h => hb6.block b (by omega)) hg
  have HRR6 := Lib.hid hRR
  have hbw : Below w.heap.size w w6 := hbel2.trans (b26.mono (by omega))
  have HBW := Lib.hid hbw
  have hg2l : g2 < w6.heap.size := by obtain ⟨_, _, h1, _⟩ := hRR; exact h1.lt
  have hgg : g < g2 := by omega
  have hlb : (rbits lb).length ≤ 800000 := by obtain ⟨_, _, _, _, _, h4⟩ := hRR; exact h4
  have hgc := HC6.out.lt
  clear hRd hRR hb5 hb6 hb3 hbel4 blk4 b26 b36 b46 hbw hb2 hbel2 hbel3 HC HR C3 C4 hb1
  generalize rbits lb = bs at *
  have e20 : ((sk % 20 : Nat) : Int) = (sk : Int) % 20 := by omega
  have C5 := skip_any w6 w4.heap.size g bs 0 (sk % 20) (by omega) HRd6.out
  have C6 := fun wx (h : RRd wx g2 w6.heap.size bs 0) => rskip_any wx g2 w6.heap.size bs 0 (sk % 20) (by omega) h
  rw [e20] at C5 C6
  have hT : (if 0 + sk % 20 ≤ bs.length then 0 + sk % 20 else 0) ≤ bs.length := by split <;> omega
  generalize (if 0 + sk % 20 ≤ bs.length then 0 + sk % 20 else 0) = T at *
  generalize (if 0 + sk % 20 ≤ bs.length then (0 : Int) else 1) = E at *
  have D5 := Lib.hid C5
  have D6 := Lib.hid C6
  clear e20 C5 C6
  go_wp2_with fail
  refine D5.out.mono ?_
  rintro e w7 ⟨rfl, hRd7, hk7⟩
  have HRR7 : Hid (RRd w7 g2 w6.heap.size bs 0) := HRR6.out.keep (fun b h1 _ => hk7.block b (show b ≠ g by omega))
  go_wp2_with fail
  refine (D6.out _ HRR7.out).mono ?_
  rintro e w8 ⟨rfl, hRR8, hk8⟩
  have HRd8 : Hid (Rd w8 w4.heap.size g bs T) := hRd7.keep (fun b _ h2 => hk8.block b (show b ≠ g2 by omega)) hg
  have HRR8 := Lib.hid hRR8
  have HK8 : Hid (Kept (fun x => x < w6.heap.size ∧ x ≠ g ∧ x ≠ g2) w6 w8) :=
    Kept.trans ⟨hk7.os, hk7.tape, hk7.output, hk7.size, fun k h => hk7.block k h.2.1⟩ ⟨hk8.os, hk8.tape, hk8.output, hk8.size, fun k h => hk8.block k h.2.2⟩
  clear hRd7 hk7 hRR8 hk8 D5 D6 HRR7
  go_wp2_with fail
  go_loopw [15] (fun i wr => ∃ (k at_ : Nat), k ≤ mo ∧ i = .int .i64 k ∧ at_ ≤ bs.length ∧ Hid (Rd wr w4.heap.size g bs at_) ∧ Hid (RRd wr g2 w6.heap.size bs at_) ∧ Hid (Kept (fun x => x < w6.heap.size ∧ x ≠ g ∧ x ≠ g2) w6 wr)) (fun i _ => mo - (intOf i).toNat)
  case atStart => exact ⟨0, T, by omega, rfl, hT, HRd8.out, HRR8.out, HK8.out⟩
  case round =>
    clear hT HRd8 HRR8 HK8 HRd6 HRR6
    obtain ⟨k, at_, hk, rfl, hat, hRd, hRR, hkp⟩ := hrel
    by_cases hlt : k < mo
    · have hkz := hkp.out.size
      have HCk : Coder wr w1.heap.size w2.heap.size gc ls := HC6.out.kept hkp.out (fun b _ h => ⟨by omega, by omega, by omega⟩)
      have C7 := Lib.hid (get_any wr w1.heap.size w2.heap.size gc w4.heap.size g ls bs at_ HOK.out HCk hRd.out)
      clear HCk
      go_wp2_with fail
      refine C7.out.mono ?_
      rintro e w9 ⟨rfl, hRd9, hk9⟩
      have hz9 := hk9.size
      have hk69 : Kept (fun x => x < w6.heap.size ∧ x ≠ g ∧ x ≠ g2) w6 w9 := hkp.out.trans ⟨hk9.os, hk9.tape, hk9.output, hk9.size, fun b h => hk9.block b h.2.1⟩
      have hRR9 : RRd w9 g2 w6.heap.size bs at_ := hRR.out.keep (fun b h1 _ => hk9.block b (show b ≠ g by omega))
      have hR9 : RCo w9 w2.heap.size w3.heap.size (.slice AL nl cL) (.slice AC nl cC) ls := HR6.out.kept hk69 (fun b _ h => ⟨by omega, by omega, by omega⟩)
      have blk9 : Blk w9 w3.heap.size _ _ := (hk69.block w3.heap.size ⟨by omega, by omega, by omega⟩).trans HB6.out
      have q0 := blk9.cell 0
      have q1 := blk9.cell 1
      simp only [List.getElem?_toArray, List.getElem?_cons_zero, List.getElem?_cons_succ] at q0 q1
      have C8 := rget_any w9 w2.heap.size w3.heap.size g2 w6.heap.size _ _ ls bs at_ HOK.out hR9 (by omega) hRR9 (by omega)
      unfold RGetPost at C8
      generalize getR ls (head bs at_) (there bs at_) = G at *
      obtain ⟨gv, ge, gadv⟩ := G
      have C8 := Lib.hid C8
      have HRd9 := Lib.hid hRd9
      have HK9 := Lib.hid hk69
      clear hR9 blk9 hRR9 hk9 hk69 hRd9 C7 hRd hRR hkp
      go_wp2_with fail
      refine C8.out.mono ?_
      rintro e w10 ⟨rfl, hRR10, hk10⟩
      have hz10 := hk10.size
      have hRd10 : Rd w10 w4.heap.size g bs (at_ + gadv) := HRd9.out.keep (fun b _ h2 => hk10.block b ⟨by omega, by omega⟩) hg
      have hk610 : Kept (fun x => x < w6.heap.size ∧ x ≠ g ∧ x ≠ g2) w6 w10 := HK9.out.trans ⟨hk10.os, hk10.tape, hk10.output, hk10.size, fun b h => hk10.block b ⟨by omega, h.2.2⟩⟩
      have hat2 : at_ + gadv ≤ bs.length := by obtain ⟨_, _, _, _, h3, _⟩ := hRR10; exact h3
      have C9 := Lib.hid (left_any w10 w4.heap.size g bs (at_ + gadv) hRd10)
      have C10 := Lib.hid (fun q => rleft_any (w10.drewN q) g2 w6.heap.size bs (at_ + gadv) (hRR10.drewN q))
      have HRd10 := Lib.hid hRd10
      have HRR10 := Lib.hid hRR10
      have HK10 := Lib.hid hk610
      clear hRR10 hk10 hRd10 hk610 HRd9 HK9 C8 q0 q1
      generalize bs.length - (at_ + gadv) = lf at *
      go_wp2_with fail
      refine C9.out.mono ?_
      rintro e w11 ⟨rfl, q1, rfl⟩
      go_wp2_with fail
      refine (C10.out q1).mono ?_
      rintro e w12 ⟨rfl, q2, rfl⟩
      by_cases he : ge = 0
      · subst he
        go_wp2_with fail
        go_roundw
        case measure => go_light; simp [intOf]; omega
        case rel =>
          go_light
          exact ⟨k + 1, at_ + gadv, by omega, by go_num, hat2, HRd10.out.drewN _, HRR10.out.drewN _, HK10.out.drewN _⟩
      · have hb : (ge != 0) = true := bne_iff_ne.mpr he
        clear he
        go_wp2_with fail
        go_ret
        exact ⟨rfl, HBW.out.trans ((HK10.out.drewN _).below (fun b h => ⟨by omega, by omega, by omega⟩))⟩
    · obtain rfl : k = mo := by omega
      go_wp2_with fail
      go_ret
      exact ⟨rfl, HBW.out.trans (hkp.out.below (fun b h => ⟨by omega, by omega, by omega⟩))⟩
end Go.Proofs.Ytdfpcnldfibceaa.Huff

/-
  The walk of huff's Coder.Get.
-/
import Derived.Test.YtdfpcnldfibceaaHuffGet
namespace Go.Proofs.Ytdfpcnldfibceaa.Huff
open Go.RowKit Go.Proofs.Ytdfpcnldfibceaa.Mem Go.Proofs.Ytdfpcnldfibceaa.Canon Go.Proofs.Ytdfpcnldfibceaa.Own

theorem div_cast (X d : Nat) : ((X / 2 ^ d : Nat) : Int) = (X : Int) / 2 ^ d := by simp
theorem head_lt (bs : List Bool) (at_ : Nat) : head bs at_ < 32768 := accB_lt bs at_ 15
theorem head_div_lt (X l : Nat) (hX : X < 32768) (hl : l ≤ 15) : X / 2 ^ (15 - l) < 2 ^ l := by
  apply Nat.div_lt_of_lt_mul
  rw [← Nat.pow_add, show 15 - l + l = 15 by omega]
  omega

set_option maxRecDepth 100000 in
theorem get_nil (w : World) (u : Value) : Calls Try.prog 57 #[.pointer none, u] w fun e w' => e = .returned (.tuple #[.int .i64 (-1), .int .i64 7]) ∧ w = w' := by
  go_enter Try.func57, Try.ntmps57
  go_wp2_with fail
  go_ret2
  exact ⟨rfl, rfl⟩

def GetPost (ls : List Nat) (bs : List Bool) (at_ lo g : Nat) (w : World) (e : Ending) (w' : World) : Prop :=
  e = .returned (.tuple #[.int .i64 (getR ls (head bs at_) (there bs at_)).1, .int .i64 (getR ls (head bs at_) (there bs at_)).2.1]) ∧
    Rd w' lo g bs (at_ + (getR ls (head bs at_) (there bs at_)).2.2) ∧ Kept (fun x => x ≠ g) w w'

set_option maxHeartbeats 1000000 in
set_option maxRecDepth 100000 in
theorem get_any (w : World) (clo cB gc lo g : Nat) (ls : List Nat) (bs : List Bool) (at_ : Nat) (hok : okB ls = true) (hC : Coder w clo cB gc ls) (hR : Rd w lo g bs at_) :
    Calls Try.prog 57 #[.pointer (some ⟨gc, 0, none⟩), .pointer (some ⟨g, 0, none⟩)] w (GetPost ls bs at_ lo g w) := by
  have C1 := Lib.hid (peek_any w lo g bs at_ 15 (by omega) hR)
  have hX := head_lt bs at_
  have hth : there bs at_ ≤ 15 := by unfold there; omega
  have hth2 : there bs at_ ≤ bs.length - at_ := by unfold there; omega
  have hlen : at_ ≤ bs.length := by
    obtain ⟨A, n, c, l, h1, h2, h3, h4, h5, h6, h7⟩ := hR
    rw [h5, rbits_length, h3]; exact h6
  change Hid (Calls _ _ _ _ fun e w' => e = .returned (.tuple #[.int .u64 (head bs at_ : Nat), .int .i64 (there bs at_ : Nat)]) ∧ ∃ q, w' = w.drewN q) at C1
  unfold GetPost
  generalize head bs at_ = X at *
  generalize there bs at_ = th at *
  have HC := Lib.hid hC
  have HR := Lib.hid hR
  have HOK := Lib.hid hok
  clear hC hR hok
  go_enter Try.func57, Try.ntmps57
  go_wp2_with fail
  refine C1.out.mono ?_
  rintro e w1 ⟨rfl, q1, hq1⟩
  have HC1 : Hid (Coder w1 clo cB gc ls) := by show Coder w1 clo cB gc ls; rw [hq1]; exact HC.out.keep (fun _ _ _ => rfl)
  have HR1 : Hid (Rd w1 lo g bs at_) := by show Rd w1 lo g bs at_; rw [hq1]; exact HR.out
  have HK1 : Hid (Kept (fun x => x ≠ g) w w1) := by show Kept _ w w1; rw [hq1]; exact (Kept.refl _ w).drewN q1
  clear hq1 C1
  go_wp2_with fail
  go_loopw [8] (fun i wr => ∃ l : Nat, 1 ≤ l ∧ l ≤ th + 1 ∧ i = .int .i64 l ∧ Hid (∀ s, hit ls X (l - 1) s = false) ∧ w1 = wr) (fun i _ => 17 - (intOf i).toNat)
  case atStart => exact ⟨1, by omega, by omega, rfl, no_hit_zero ls X, rfl⟩
  case round =>
    obtain ⟨l, hl1, hl2, rfl, hno, rfl⟩ := hrel
    by_cases hlt : l ≤ th
    · by_cases hhit : ∃ k, k < cn ls l ∧ X / 2 ^ (15 - l) = fst ls l + k
      · obtain ⟨k, hk, hy⟩ := hhit
        obtain ⟨s, hs1, hs2, hs3⟩ := find_hit (by omega) hk hy
        have C2 := find_hits w1 clo cB gc ls _ l k s HOK.out HC1.out (by omega) (by omega) hk hy hs1
        rw [div_cast] at C2
        have C2 := Lib.hid C2
        have C3 := skip_any w1 lo g bs at_ l (by omega) HR1.out
        rw [if_pos (by omega), if_pos (by omega)] at C3
        have C3 := Lib.hid C3
        have HG := Lib.hid (getR_hit HOK.out hs2 (hit_mono hlt hs3))
        clear hk hy hs1 hs2 hs3 hno
        go_wp2_with fail
        refine C2.out.mono ?_
        rintro e w2 ⟨rfl, rfl⟩
        go_wp2_with fail
        refine C3.out.mono ?_
        rintro e w3 ⟨rfl, hR3, hk3⟩
        go_wp2_with fail
        go_ret2
        rw [HG.out]
        exact ⟨rfl, hR3, HK1.out.trans hk3⟩
      · have hy : X / 2 ^ (15 - l) < fst ls l ∨ fst ls l + cn ls l ≤ X / 2 ^ (15 - l) := by
          by_cases h : X / 2 ^ (15 - l) < fst ls l
          · exact .inl h
          · refine .inr (Nat.le_of_not_lt fun h2 => hhit ⟨X / 2 ^ (15 - l) - fst ls l, by omega, by omega⟩)
        have hyl := Nat.div_le_self X (2 ^ (15 - l))
        have C2 := find_none w1 clo cB gc ls (X / 2 ^ (15 - l)) l HOK.out HC1.out (by omega) (by omega) (by omega) hy
        rw [div_cast] at C2
        have C2 := Lib.hid C2
        have hno2 : ∀ s, hit ls X l s = false := by
          obtain ⟨j, rfl⟩ : ∃ j, l = j + 1 := ⟨l - 1, by omega⟩
          exact no_hit_succ hno.out hy
        have HNO := Lib.hid hno2
        clear hhit hy hyl hno hno2
        go_wp2_with fail
        refine C2.out.mono ?_
        rintro e w2 ⟨rfl, rfl⟩
        go_wp2_with fail
        go_roundw
        case measure => go_light; simp [intOf]; omega
        case rel =>
          go_light
          exact ⟨l + 1, by omega, by omega, by go_num, HNO.out, trivial⟩
    · have hle : l - 1 = th := by omega
      have hno2 := hno.out
      rw [hle] at hno2
      have hG := getR_none hno2
      obtain ⟨_, hsm, _⟩ := ok_parts HOK.out
      rw [← meetsAny_begin hsm] at hG
      have HG := Lib.hid hG
      by_cases h15 : th < 15
      · have C2 := begins_any w1 clo cB gc ls (X / 2 ^ (15 - th)) th HOK.out HC1.out h15 (head_div_lt X th hX hth)
        rw [div_cast] at C2
        have C2 := Lib.hid C2
        have x1 : (th : Int) < 15 := by omega
        cases hma : meetsAny ls (X / 2 ^ (15 - th)) th
        · rw [hma] at C2 HG
          clear hle hno hno2 hG hsm hma
          go_wp2_with fail
          refine C2.out.mono ?_
          rintro e w2 ⟨rfl, q2, rfl⟩
          go_wp2_with fail
          go_ret2
          rw [HG.out]
          exact ⟨rfl, HR1.out.drewN q2, HK1.out.drewN q2⟩
        · rw [hma] at C2 HG
          clear hle hno hno2 hG hsm hma
          go_wp2_with fail
          refine C2.out.mono ?_
          rintro e w2 ⟨rfl, q2, rfl⟩
          go_wp2_with fail
          go_ret2
          rw [HG.out]
          exact ⟨rfl, HR1.out.drewN q2, HK1.out.drewN q2⟩
      · have hma : meetsAny ls (X / 2 ^ (15 - th)) th = false := meetsAny_none fun k h1 h2 => by omega
        rw [hma] at HG
        clear hle hno hno2 hG hsm hma
        go_wp2_with fail
        go_ret2
        rw [HG.out]
        exact ⟨rfl, HR1.out, HK1.out⟩

set_option maxRecDepth 100000 in
theorem peek_nil (w : World) (m : Nat) (_hm : m ≤ 64) : Calls Try.prog 108 #[.pointer none, .int .i64 (m : Nat)] w fun e w' => e = .returned (.tuple #[.int .u64 0, .int .i64 0]) ∧ w = w' := by
  go_enter Try.func108, Try.ntmps108
  go_wp2_with fail
  go_ret2
  exact ⟨rfl, rfl⟩
set_option maxRecDepth 100000 in
theorem get_nobody (w : World) (clo cB gc : Nat) (ls : List Nat) (hok : okB ls = true) (hm : meetsAny ls 0 0 = true) (hC : Coder w clo cB gc ls) :
    Calls Try.prog 57 #[.pointer (some ⟨gc, 0, none⟩), .pointer none] w fun e w' => e = .returned (.tuple #[.int .i64 (-1), .int .i64 1]) ∧ ∃ q, w' = w.drewN q := by
  have C1 := Lib.hid (peek_nil w 15 (by omega))
  have C2 := begins_any w clo cB gc ls 0 0 hok hC (by omega) (by omega)
  rw [hm] at C2
  have C2 := Lib.hid C2
  clear hok hm hC
  go_enter Try.func57, Try.ntmps57
  go_wp2_with fail
  refine C1.out.mono ?_
  rintro e w1 ⟨rfl, rfl⟩
  go_wp2_with fail
  go_loopw [8] (fun i wr => i = .int .i64 1 ∧ w = wr) (fun i _ => 17 - (intOf i).toNat)
  case atStart => exact ⟨rfl, rfl⟩
  case round =>
    obtain ⟨rfl, rfl⟩ := hrel
    go_wp2_with fail
    refine C2.out.mono ?_
    rintro e w2 ⟨rfl, q2, rfl⟩
    go_wp2_with fail
    go_ret2
    exact ⟨rfl, _, rfl⟩
end Go.Proofs.Ytdfpcnldfibceaa.Huff

/-
  The walks of package toks' Split and Join and of the reference's, with what they call.
-/
import Derived.Test.YtmgjgkdbagbleaaGreatDoorZOneTurned16
import Derived.Test.YtmgjgkdbagbleaaGreatDoorZOneTurned1
import Derived.Test.YtmgjgkdbagbleaaGreatDoorZOneTurned17
import Derived.Test.YtmgjgkdbagbleaaGreatDoorProg
import Derived.WalkKit
import Derived.ProofKit
import Derived.BigQuiet
import Derived.BigGuardPart
import Derived.Deep.QuietTactic
import Derived.Lib.Hide
import Derived.Deep.Light
namespace Go.Proofs.YtmgjgkdbagbleaaGreatDoor.Toks
open Go.RowKit Go.Proofs.YtmgjgkdbagbleaaGreatDoor.Mem
theorem lz_may (t : Tk) (w : World) :
    Calls Tryz.prog 304 #[t.val] w fun e w' => e = .returned (.bool (mayB t.lit t.len t.dist)) ∧ Below w.heap.size w w' := by
  obtain ⟨lit, len, dist⟩ := t
  unfold Tk.val
  go_enter Tryz.func304, Tryz.ntmps304
  go_wp2
  all_goals
    go_ret
    refine ⟨ret_bool ?_, (Below.refl _ _).alloc (Nat.le_refl _) _⟩
    go_light
    first | (simp_all [mayB]; done) | (simp_all [mayB]; omega) | (subst_vars; simp_all [mayB]; rw [Bool.eq_iff_iff]; simp)
theorem ret_two {a b c d : Int} (h1 : a = b) (h2 : c = d) : Ending.returned (.tuple #[.int .i64 a, .int .i64 c]) = .returned (.tuple #[.int .i64 b, .int .i64 d]) := by rw [h1, h2]
theorem pw_wrap (b : Int) (h2 : b ≤ 60) : wrap64 (2 ^ b.toNat) = pw b ∧ pw b ≤ 1152921504606846976 := by
  have hm := pw_mono b 60 h2
  rw [show pw 60 = 1152921504606846976 from by decide] at hm
  have hp := pw_pos b
  have e : (2 : Int) ^ b.toNat = pw b := by unfold pw; simp
  rw [e]
  exact ⟨IntWalk.wrap64_in _ ⟨by omega, by omega⟩, hm⟩
theorem toks_fits (x b : Int) (w : World) (h1 : 0 ≤ b) (h2 : b ≤ 60) :
    Calls Tryz.prog 343 #[.int .i64 x, .int .i64 b] w fun e w' => e = .returned (.bool (decide (0 ≤ x ∧ x < pw b))) ∧ w = w' := by
  obtain ⟨hw, _⟩ := pw_wrap b h2
  have HW := Lib.hid hw
  clear hw
  go_enter Tryz.func343, Tryz.ntmps343
  go_wp2
  all_goals
    go_ret
    go_light
    refine ⟨ret_bool ?_, rfl⟩
    first | (rw [HW.out]; simp; omega) | (simp; omega)
theorem bitLen_lg (v : Int) (h : 1 ≤ v) (h2 : v ≤ 4611686018427387903) : ((Lib.bitLen v.toNat : Nat) : Int) = lg v + 1 := by
  unfold lg Lib.bitLen
  have key : ∀ (f n : Nat), 1 ≤ n → n < 2 ^ f → Lib.bitLenAux f n = Nat.log2 n + 1 := by
    intro f
    induction f with
    | zero => intro n h1 h2; simp at h2; omega
    | succ f ih =>
      intro n h1 h2
      rw [Lib.bitLenAux, if_neg (by omega)]
      rw [Nat.log2_def]
      by_cases hn : 2 ≤ n
      · rw [if_pos hn, ih (n / 2) (by omega) (by rw [Nat.pow_succ] at h2; omega)]
        omega
      · have : n = 1 := by omega
        subst this
        simp
        cases f <;> simp [Lib.bitLenAux]
  rw [key 64 v.toNat (by omega) (by omega)]
  omega
theorem bits_len (v : Int) (w : World) (h1 : 1 ≤ v) (h2 : v ≤ 4611686018427387903) :
    Calls Tryz.prog 257 #[.int .u64 v] w fun e w' => e = .returned (.int .i64 (lg v + 1)) ∧ w = w' :=
  (Tryz.bits_Len v w (by omega) (by omega)).mono fun e w' ⟨he, hw⟩ => ⟨by rw [he, bitLen_lg v h1 h2], hw.symm⟩
theorem toks_class (v : Int) (w : World) (h1 : 1 ≤ v) (h2 : v ≤ 1152921504606846975) :
    Calls Tryz.prog 305 #[.int .i64 v] w fun e w' => e = .returned (.tuple #[.int .i64 (lg v), .int .i64 (v - pw (lg v))]) ∧ Below w.heap.size w w' := by
  have hl := lg_nonneg v
  have hl2 : lg v < 60 := lg_lt v 60 (by omega) h1 (by rw [show pw 60 = 1152921504606846976 from by decide]; omega)
  obtain ⟨p1, p2⟩ := pw_wrap (lg v) (by omega)
  have p3 := pw_pos (lg v)
  have HP := Lib.hid p1
  clear p1
  go_enter Tryz.func305, Tryz.ntmps305
  go_wp2_with (go_at_call 257; refine (bits_len _ _ (by omega) (by omega)).mono ?_; rintro e w' ⟨rfl, rfl⟩)
  go_quiet (fail)
  go_wp2
  go_ret2
  refine ⟨?_, below_drewN (Below.refl _ _) _⟩
  refine ret_two rfl ?_
  show wrap64 (v - wrap64 (2 ^ (lg v).toNat)) = _
  rw [HP.out]
  exact IntWalk.wrap64_in _ ⟨by omega, by omega⟩
theorem bcell {W w1 : World} (hb : Below W.heap.size W w1) : (∀ b o, b < W.heap.size → w1.cell? ⟨b, o, none⟩ = W.cell? ⟨b, o, none⟩) ∧ (∀ b o, b < W.heap.size → w1.frozen? ⟨b, o, none⟩ = W.frozen? ⟨b, o, none⟩) :=
  ⟨fun b o h => hb.cell (p := ⟨b, o, none⟩) h, fun b o h => hb.frozen (p := ⟨b, o, none⟩) h⟩
theorem Pc.val_mk (a b c d : Int) : Pc.val ⟨a, b, c, d⟩ = .agg #[.int .i64 a, .int .i64 b, .int .i64 c, .int .i64 d] := rfl
theorem Tk.val_mk (a b c : Int) : Tk.val ⟨a, b, c⟩ = .agg #[.int .u8 a, .int .i64 b, .int .i64 c] := rfl
theorem split_no {t : Tk} (h : mayB t.lit t.len t.dist = false) : splitP t = ⟨0, 0, 0, 0⟩ ∧ splitE t = 7 := by
  unfold splitP splitE; rw [if_neg (by simp [h]), if_neg (by simp [h])]; exact ⟨rfl, rfl⟩
theorem split_lit {t : Tk} (h : mayB t.lit t.len t.dist = true) (hl : t.len = 0) : splitP t = ⟨t.lit, 0, 0, 0⟩ ∧ splitE t = 0 := by
  unfold splitP splitE; rw [if_pos h, if_pos h, if_pos hl]; exact ⟨rfl, rfl⟩
theorem split_match {t : Tk} (h : mayB t.lit t.len t.dist = true) (hl : t.len ≠ 0) :
    splitP t = ⟨257 + lg (t.len - 2), t.len - 2 - pw (lg (t.len - 2)), lg t.dist, t.dist - pw (lg t.dist)⟩ ∧ splitE t = 0 ∧ 3 ≤ t.len ∧ t.len ≤ 257 ∧ 1 ≤ t.dist ∧ t.dist ≤ 4095 := by
  unfold splitP splitE; rw [if_pos h, if_pos h, if_neg hl]
  unfold mayB at h; rw [if_neg hl] at h
  have := of_decide_eq_true h
  exact ⟨rfl, rfl, by omega, by omega, by omega, by omega⟩
theorem toks_split (t : Tk) (w : World) (h0 : 0 ≤ t.lit) (h1 : t.lit ≤ 255) :
    Calls Tryz.prog 276 #[t.val] w fun e w' => e = .returned (.tuple #[(splitP t).val, .int .i64 (splitE t)]) ∧ Below w.heap.size w w' := by
  have hmc := fun w => lz_may t w
  cases hm : mayB t.lit t.len t.dist
  · rw [hm] at hmc
    obtain ⟨hs, he⟩ := split_no hm
    rw [hs, he]
    have HM := Lib.hid hmc
    clear hs he hm hmc
    obtain ⟨lit, len, dist⟩ := t
    rw [Pc.val_mk]
    rw [Tk.val_mk] at *
    go_enter Tryz.func276, Tryz.ntmps276
    go_wp2_with (go_at_call 304; refine (HM.out _).mono ?_; rintro e w' ⟨rfl, hb⟩; obtain ⟨hc, hf⟩ := bcell hb)
    refine bodyPost_ret (v := .tuple #[.agg #[.int .i64 0, .int .i64 0, .int .i64 0, .int .i64 0], .int .i64 7]) (by simp [results, Tryz.results276, go_sem, hc]) rfl ⟨rfl, ?_⟩; (repeat (first | (with_reducible exact Below.refl _ _) | (with_reducible assumption) | (with_reducible refine Below.drew ?_) | (with_reducible refine below_drewN ?_ _) | ((with_reducible refine bel_set ?_ ?_); (focus (first | (simp; done) | (simp; omega) | omega | (simp at *; omega)))) | (with_reducible refine bel_alloc0 ?_) | (with_reducible refine bel_step0 (by assumption) ?_) | ((with_reducible refine bel_alloc ?_ ?_); (focus (first | (simp; done) | (simp; omega) | omega | (simp at *; omega)))) | ((with_reducible refine bel_step (by assumption) ?_ ?_); (focus (first | (simp; done) | (simp; omega) | omega | (simp at *; omega))))))
  · rw [hm] at hmc
    by_cases hl : t.len = 0
    · obtain ⟨hs, he⟩ := split_lit hm hl
      rw [hs, he]
      have HM := Lib.hid hmc
      clear hs he hm hmc
      obtain ⟨lit, len, dist⟩ := t
      simp only at hl h0 h1
      subst hl
      rw [Pc.val_mk]
      rw [Tk.val_mk] at *
      go_enter Tryz.func276, Tryz.ntmps276
      go_wp2_with (go_at_call 304; refine (HM.out _).mono ?_; rintro e w' ⟨rfl, hb⟩; obtain ⟨hc, hf⟩ := bcell hb)
      refine bodyPost_ret (v := .tuple #[.agg #[.int .i64 lit, .int .i64 0, .int .i64 0, .int .i64 0], .int .i64 0]) (by simp [results, Tryz.results276, go_sem, hc]) rfl ⟨rfl, ?_⟩; (repeat (first | (with_reducible exact Below.refl _ _) | (with_reducible assumption) | (with_reducible refine Below.drew ?_) | (with_reducible refine below_drewN ?_ _) | ((with_reducible refine bel_set ?_ ?_); (focus (first | (simp; done) | (simp; omega) | omega | (simp at *; omega)))) | (with_reducible refine bel_alloc0 ?_) | (with_reducible refine bel_step0 (by assumption) ?_) | ((with_reducible refine bel_alloc ?_ ?_); (focus (first | (simp; done) | (simp; omega) | omega | (simp at *; omega)))) | ((with_reducible refine bel_step (by assumption) ?_ ?_); (focus (first | (simp; done) | (simp; omega) | omega | (simp at *; omega))))))
    · obtain ⟨hs, he, a1, a2, a3, a4⟩ := split_match hm hl
      rw [hs, he]
      have HM := Lib.hid hmc
      clear hs he hm hmc
      have c1 := fun w => toks_class (t.len - 2) w (by omega) (by omega)
      have c2 := fun w => toks_class t.dist w (by omega) (by omega)
      obtain ⟨lit, len, dist⟩ := t
      simp only at hl h0 h1 a1 a2 a3 a4 c1 c2
      obtain ⟨x1, hx1⟩ : ∃ x, x = lg (len - 2) := ⟨_, rfl⟩
      have b1 : 0 ≤ x1 := by rw [hx1]; exact lg_nonneg _
      have b2 : x1 < 8 := by rw [hx1]; exact lg_lt _ 8 (by omega) (by omega) (by rw [pw_8]; omega)
      simp only [← hx1] at c1 ⊢
      obtain ⟨x2, hx2⟩ : ∃ x, x = len - 2 - pw x1 := ⟨_, rfl⟩
      obtain ⟨y1, hy1⟩ : ∃ x, x = lg dist := ⟨_, rfl⟩
      simp only [← hx2, ← hy1] at c1 c2 ⊢
      obtain ⟨y2, hy2⟩ : ∃ x, x = dist - pw y1 := ⟨_, rfl⟩
      simp only [← hy2] at c2 ⊢
      have C1 := Lib.hid c1
      have C2 := Lib.hid c2
      clear c1 c2 hx1 hx2 hy1 hy2
      rw [Pc.val_mk]
      rw [Tk.val_mk] at *
      go_enter Tryz.func276, Tryz.ntmps276
      go_wp2_with (go_at_call 304; refine (HM.out _).mono ?_; rintro e w' ⟨rfl, hb⟩; obtain ⟨hc, hf⟩ := bcell hb; have hz : w.heap.size + 1 < w'.heap.size := (by have := hb.size; simp at this; omega); have hy : w.heap.size < w'.heap.size := (by omega))
      refine (C1.out _).mono ?_
      rintro e w2 ⟨rfl, hb2⟩
      obtain ⟨hc2, hf2⟩ := bcell hb2
      have hz2 : w.heap.size + 1 < w2.heap.size := by have := hb2.size; omega
      have hy2 : w.heap.size < w2.heap.size := by omega
      go_wp2_with fail
      refine (C2.out _).mono ?_
      rintro e w3 ⟨rfl, hb3⟩
      obtain ⟨hc3, hf3⟩ := bcell hb3
      go_wp2
      refine bodyPost_ret (v := .tuple #[.agg #[.int .i64 (257 + x1), .int .i64 x2, .int .i64 y1, .int .i64 y2], .int .i64 0]) (by simp [results, Tryz.results276, go_sem, hc, hc2, hc3, hz, hz2]) rfl ⟨rfl, ?_⟩; (repeat (first | (with_reducible exact Below.refl _ _) | (with_reducible assumption) | (with_reducible refine Below.drew ?_) | (with_reducible refine below_drewN ?_ _) | ((with_reducible refine bel_set ?_ ?_); (focus (first | (simp; done) | (simp; omega) | omega | (simp at *; omega)))) | (with_reducible refine bel_alloc0 ?_) | (with_reducible refine bel_step0 (by assumption) ?_) | ((with_reducible refine bel_alloc ?_ ?_); (focus (first | (simp; done) | (simp; omega) | omega | (simp at *; omega)))) | ((with_reducible refine bel_step (by assumption) ?_ ?_); (focus (first | (simp; done) | (simp; omega) | omega | (simp at *; omega))))))
end Go.Proofs.YtmgjgkdbagbleaaGreatDoor.Toks

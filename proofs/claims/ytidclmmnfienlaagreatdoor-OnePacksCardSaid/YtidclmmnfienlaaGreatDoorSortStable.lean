/-
  The walks of slices' stable sort of a row of rising numbers, by package lens' comparison.
-/
import Derived.Test.YtidclmmnfienlaaGreatDoorSortMany
namespace Go.Proofs.YtidclmmnfienlaaGreatDoor.Srt
open Go.RowKit Go.Proofs.YtidclmmnfienlaaGreatDoor.Mem Go.Proofs.YtidclmmnfienlaaGreatDoor.Own

theorem sym_int (Bo g n c N : Nat) (k : Nat → Nat) (hN : n ≤ 4611686018427387904) : ∀ (w : World) (x y z : Int) (a m b : Nat) (f : Nat → Nat), x = a → y = m → z = b → a < m → m < b → b ≤ n → Sor k f a m → Sor k f m b → Low f a m b → All N n f → Dat w g n f → CmpOk Bo g N w k →
    Calls Tryz.prog 189 #[.slice (some ⟨g, 0, none⟩) n c, .int .i64 x, .int .i64 y, .int .i64 z, .func (Fn.func 170) #[] #[.pointer (some ⟨Bo, 0, none⟩)]] w (InsPost k f g n a b w) := by
  intro w x y z a m b f h1 h2 h3
  subst h1 h2 h3
  exact sym_any Bo g n c N k hN (b - a) w a m b f (Nat.le_refl _)
def StPost (k f0 : Nat → Nat) (g n : Nat) (w : World) (e : Ending) (w' : World) : Prop := e = .returned (.tuple #[]) ∧ ∃ f', Put g n f' w w' ∧ Ok k f0 f' 0 n
/-- How the sort stands. -/
structure Std (k f0 f : Nat → Nat) (N g n : Nat) (w wr : World) : Prop where
  put : Put g n f w wr
  all : All N n f
theorem Std.next {k f0 f f' : Nat → Nat} {N g n a b : Nat} {w wr w1 : World} (h : Std k f0 f N g n w wr) (hp : Put g n f' wr w1) (hm : Mer k f f' a b) (hb : b ≤ n) : Std k f0 f' N g n w w1 := ⟨h.put.trans hp, h.all.mer hm hb⟩

set_option maxHeartbeats 2000000 in
set_option maxRecDepth 100000 in
theorem stable_any (w : World) (Bo g n c N : Nat) (k f0 : Nat → Nat) (hN : n ≤ 1000000) (h0 : ∀ i j, i < j → j < n → f0 i < f0 j) (hall : All N n f0) (hd : Dat w g n f0) (hc : CmpOk Bo g N w k) :
    Calls Tryz.prog 185 #[.slice (some ⟨g, 0, none⟩) n c, .int .i64 n, .func (Fn.func 170) #[] #[.pointer (some ⟨Bo, 0, none⟩)]] w (StPost k f0 g n w) := by
  have S := Lib.hid (sym_int Bo g n c N k (by omega))
  have I := Lib.hid (fun (wx : World) (a b : Nat) (f : Nat → Nat) h1 h2 h3 h4 h5 h6 => ins_any wx Bo g n c a b N k f (by omega) h1 h2 h3 h4 h5 h6)
  have H0 := Lib.hid h0
  have HC := Lib.hid hc
  have p0 : Hid (Std k f0 f0 N g n w w) := ⟨Put.refl hd, hall⟩
  clear h0 hall hd hc
  go_enter Tryz.func185, Tryz.ntmps185
  go_wp2_with fail
  go_loopw [7, 8] (fun av bv wr => ∃ (q A B : Nat) (f : Nat → Nat), A ≤ n ∧ A + 20 ≤ B ∧ B ≤ A + 20 ∧ av = .int .i64 A ∧ bv = .int .i64 B ∧ Hid (A = 20 * q) ∧ Hid (Ph1 k f0 f n q) ∧ Hid (Std k f0 f N g n w wr)) (fun _ b _ => n + 20 - (intOf b).toNat)
  case atStart => exact ⟨0, 0, 20, f0, by omega, by omega, by omega, rfl, rfl, rfl, Ph1.start f0 n, p0⟩
  case round =>
    clear p0
    obtain ⟨q, A, B, f, hA1, hB1, hB2, rfl, rfl, hA, hP, hS⟩ := hrel
    have hasc : ∀ i j, A ≤ i → i < j → j < n → f i < f j := fun i j h1 h2 h3 => by
      have := hA.out
      rw [hP.out.2 i (by omega), hP.out.2 j (by omega)]
      exact H0.out i j h2 h3
    have HASC := Lib.hid hasc
    clear hasc
    by_cases hlt : B ≤ n
    · go_wp2_with fail
      refine (I.out wr A B f (by omega) hlt (fun i j h1 h2 h3 => HASC.out i j h1 h2 (by omega)) hS.out.all hS.out.put.1 (HC.out.keep hS.out.put.2)).mono ?_
      rintro e w1 ⟨rfl, f', hp1, hm1⟩
      have HS1 : Hid (Std k f0 f' N g n w w1) := hS.out.next hp1 hm1 hlt
      have HP1 : Hid (Ph1 k f0 f' n (q + 1)) := by
        have e1 := hA.out
        have e2 : B = 20 * q + 20 := by omega
        rw [e1, e2] at hm1
        exact hP.out.step hm1 (by omega)
      have HA1 : Hid (B = 20 * (q + 1)) := by show _ = _; have := hA.out; omega
      clear hp1 hm1
      go_wp2_with fail
      go_roundw
      case rel => go_light; exact ⟨q + 1, B, B + 20, f', by omega, by omega, by omega, rfl, by go_num, HA1, HP1, HS1⟩
      case measure => go_light; simp [intOf]; omega
    · obtain ⟨wo, rfl⟩ : ∃ wo : World, wo = wr := ⟨_, rfl⟩
      go_wp2_with fail
      refine (I.out wo A n f hA1 (Nat.le_refl _) HASC.out hS.out.all hS.out.put.1 (HC.out.keep hS.out.put.2)).mono ?_
      rintro e w1 ⟨rfl, f', hp1, hm1⟩
      have HS1 : Hid (Std k f0 f' N g n w w1) := hS.out.next hp1 hm1 (Nat.le_refl _)
      have HP1 : Hid (Ph2 k f0 f' n 20 0) := by
        have e1 := hA.out
        rw [e1] at hm1
        exact hP.out.done hm1 (by omega) (by omega)
      clear hp1 hm1 HASC hS hP
      go_wp2_with fail
      go_loopw [6] (fun sv wr => ∃ (s : Nat) (f : Nat → Nat), 20 ≤ s ∧ s ≤ 2 * n + 20 ∧ sv = .int .i64 s ∧ Hid (Ph2 k f0 f n s 0) ∧ Hid (Std k f0 f N g n w wr)) (fun s _ => n - (intOf s).toNat)
      case atStart => exact ⟨20, f', by omega, by omega, rfl, HP1, HS1⟩
      case round =>
        clear HP1 HS1
        obtain ⟨s, f1, hs1, hs2, rfl, hP1, hS1⟩ := hrel
        by_cases hsn : s < n
        · obtain ⟨wp, rfl⟩ : ∃ wp : World, wp = wr := ⟨_, rfl⟩
          go_wp2_with fail
          go_loopw [7, 8] (fun av bv wr => ∃ (q A B : Nat) (f : Nat → Nat), A ≤ n ∧ A + 2 * s ≤ B ∧ B ≤ A + 2 * s ∧ av = .int .i64 A ∧ bv = .int .i64 B ∧ Hid (A = 2 * s * q) ∧ Hid (Ph2 k f0 f n s q) ∧ Hid (Std k f0 f N g n w wr)) (fun _ b _ => n + 2 * s - (intOf b).toNat)
          case atStart => exact ⟨0, 0, 2 * s, f1, by omega, by omega, by omega, rfl, by go_num, by show _ = _; simp, hP1, hS1⟩
          case round => as_aux_lemma =>
            clear hP1 hS1
            obtain ⟨q, A, B, f, hA1, hB1, hB2, rfl, rfl, hA, hP, hS⟩ := hrel
            by_cases hlt : B ≤ n
            · have hparts := hP.out.parts H0.out hA.out (by omega) (b := B) (by omega)
              have HPT := Lib.hid hparts
              clear hparts
              go_wp2_with fail
              refine (S.out wr _ _ _ A (A + s) B f rfl (by omega) rfl (by omega) (by omega) hlt HPT.out.1.1 HPT.out.2.1.1 HPT.out.2.2 hS.out.all hS.out.put.1 (HC.out.keep hS.out.put.2)).mono ?_
              rintro e w2 ⟨rfl, f2, hp2, hm2⟩
              have HS2 : Hid (Std k f0 f2 N g n w w2) := hS.out.next hp2 hm2 hlt
              have HP2 : Hid (Ph2 k f0 f2 n s (q + 1)) := hP.out.step hA.out (by omega) hlt HPT.out.1 HPT.out.2.1 hm2
              have HA2 : Hid (B = 2 * s * (q + 1)) := by show _ = _; have := hA.out; rw [Nat.mul_add, ← this]; omega
              clear hp2 hm2
              go_wp2_with fail
              go_roundw
              case rel => go_light; exact ⟨q + 1, B, B + 2 * s, f2, by omega, by omega, by omega, rfl, congrArg (Value.int .i64) (by omega), HA2, HP2, HS2⟩
              case measure => go_light; simp [intOf]; omega
            · by_cases hms : A + s < n
              · have hparts := hP.out.parts H0.out hA.out (by omega) (b := n) (by omega)
                have HPT := Lib.hid hparts
                clear hparts
                go_wp2_with fail
                refine (S.out wr _ _ _ A (A + s) n f rfl (by omega) rfl (by omega) (by omega) (Nat.le_refl _) HPT.out.1.1 HPT.out.2.1.1 HPT.out.2.2 hS.out.all hS.out.put.1 (HC.out.keep hS.out.put.2)).mono ?_
                rintro e w2 ⟨rfl, f2, hp2, hm2⟩
                have HS2 : Hid (Std k f0 f2 N g n w w2) := hS.out.next hp2 hm2 (Nat.le_refl _)
                have HP2 : Hid (Ph2 k f0 f2 n (2 * s) 0) := Ph2.next (hP.out.last_more hA.out rfl (by omega) (by omega) HPT.out.1 HPT.out.2.1 hm2)
                clear hp2 hm2
                go_wp2_with fail
                go_roundw
                case rel => go_light; exact ⟨2 * s, f2, by omega, by omega, congrArg (Value.int .i64) (by omega), HP2, HS2⟩
                case measure => go_light; simp [intOf]; omega
              · have HP2 : Hid (Ph2 k f0 f n (2 * s) 0) := Ph2.next (hP.out.last_few hA.out rfl (by omega) (by omega))
                go_wp2_with fail
                go_roundw
                case rel => go_light; exact ⟨2 * s, f, by omega, by omega, congrArg (Value.int .i64) (by omega), HP2, hS⟩
                case measure => go_light; simp [intOf]; omega
        · go_wp2_with fail
          refine bodyPost_end (results_none rfl _ _ _) rfl ⟨rfl, f1, hS1.out.put, hP1.out.all (by omega)⟩

theorem sortStable_any (w : World) (Bo g n c N : Nat) (k f0 : Nat → Nat) (hN : n ≤ 1000000) (h0 : ∀ i j, i < j → j < n → f0 i < f0 j) (hall : All N n f0) (hd : Dat w g n f0) (hc : CmpOk Bo g N w k) :
    Calls Tryz.prog 169 #[.slice (some ⟨g, 0, none⟩) n c, .func (Fn.func 170) #[] #[.pointer (some ⟨Bo, 0, none⟩)]] w (StPost k f0 g n w) := by
  have C := Lib.hid (stable_any w Bo g n c N k f0 hN h0 hall hd hc)
  clear h0 hall hd hc
  go_enter Tryz.func169, Tryz.ntmps169
  go_wp2_with fail
  refine C.out.mono ?_
  rintro e w1 ⟨rfl, h⟩
  have H := Lib.hid h
  clear h
  go_wp2_with fail
  refine bodyPost_end (results_none rfl _ _ _) rfl ⟨rfl, H.out⟩

/-- A nil row. -/
theorem ins_nil (w : World) (u v : Value) :
    Calls Tryz.prog 188 #[v, .int .i64 0, .int .i64 0, u] w fun e w' => e = .returned (.tuple #[]) ∧ w = w' := by
  go_enter Tryz.func188, Tryz.ntmps188
  go_wp2_with fail
  refine wp_loop_rounds 1 ?_
  rw [rounds_succ]
  go_wp2_with fail
  refine bodyPost_end (results_none rfl _ _ _) rfl ⟨rfl, rfl⟩
theorem stable_nil (w : World) (u v : Value) :
    Calls Tryz.prog 185 #[v, .int .i64 0, u] w fun e w' => e = .returned (.tuple #[]) ∧ w = w' := by
  go_enter Tryz.func185, Tryz.ntmps185
  go_wp2_with fail
  refine wp_loop_rounds 1 ?_
  rw [rounds_succ]
  go_wp2_with fail
  refine (ins_nil _ _ _).mono ?_
  rintro e w1 ⟨rfl, rfl⟩
  go_wp2_with fail
  refine wp_loop_rounds 1 ?_
  rw [rounds_succ]
  go_wp2_with fail
  refine bodyPost_end (results_none rfl _ _ _) rfl ⟨rfl, rfl⟩
theorem sortStable_nil (w : World) (u : Value) :
    Calls Tryz.prog 169 #[.slice none 0 0, u] w fun e w' => e = .returned (.tuple #[]) ∧ w = w' := by
  go_enter Tryz.func169, Tryz.ntmps169
  go_wp2_with fail
  refine (stable_nil _ _ _).mono ?_
  rintro e w1 ⟨rfl, rfl⟩
  go_wp2_with fail
  refine bodyPost_end (results_none rfl _ _ _) rfl ⟨rfl, rfl⟩
end Go.Proofs.YtidclmmnfienlaaGreatDoor.Srt

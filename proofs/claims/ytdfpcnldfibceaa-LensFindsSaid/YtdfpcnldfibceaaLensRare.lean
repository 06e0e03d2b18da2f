/-
  The walks of the statements LensMore and LensRare.
-/
import Derived.Test.YtdfpcnldfibceaaLensLaws
namespace Go.Proofs.Ytdfpcnldfibceaa.Lens
open Go.RowKit Go.Proofs.Ytdfpcnldfibceaa.Mem Go.Proofs.Ytdfpcnldfibceaa.Own Go.Proofs.Ytdfpcnldfibceaa.Srt Go.Proofs.Ytdfpcnldfibceaa.Canon

/-! ### LensMore -/
theorem lensO_small {ks : List Nat} {limit : Int} : ∀ x ∈ lensO ks limit, x ≤ 255 := by
  intro x hx
  by_cases h : lensE ks limit = 0
  · obtain ⟨hn, L, rfl, h1, h2, h3, e⟩ := ok_parts h
    rw [e] at hx
    obtain ⟨s, _, rfl⟩ := List.mem_map.1 hx
    by_cases hm : s ∈ order (kOf ks) ks.length
    · have := (lenS_in h1 h3 hm).2; omega
    · rw [lenS_out hm]; omega
  · unfold lensO at hx
    rw [if_neg h] at hx
    cases hx
theorem costO_lens {ks : List Nat} {limit : Int} (h : lensE ks limit = 0) : costE ks (lensO ks limit) = 0 ∧ costO ks (lensO ks limit) = costV ks (lensO ks limit) := by
  have h1 := (ok_parts h).1
  have e : costE ks (lensO ks limit) = 0 := by unfold costE; rw [lensO_length h, if_pos ⟨rfl, h1⟩]
  exact ⟨e, by unfold costO; rw [if_pos e]⟩

theorem law_more_long (w : World) (A : Option Addr) (n c : Nat) (x : Int) (_hn : n ≤ 9223372036854775807) (h : 300 < n) :
    Calls Try.prog 21 #[.slice A n c, .int .u8 x] w fun e w' => e = .returned (.bool true) ∧ Below w.heap.size w w' := by
  go_enter Try.func21, Try.ntmps21
  go_wp2_with fail
  refine (alive07 _).mono ?_
  rintro e w1 ⟨rfl, hb1⟩
  go_wp2_with fail
  go_ret
  exact ⟨rfl, hb1⟩

set_option maxHeartbeats 1000000 in
set_option maxRecDepth 100000 in
theorem law_more (w : World) (A : Option Addr) (n c x : Nat) (ks : List Nat) (hn : ks.length = n) (hN : n ≤ 300) (hx : x ≤ 255) (h32 : ∀ x ∈ ks, x < 4294967296) (ha : Row w w.heap.size A n 1 (numF .u32 ks)) :
    Calls Try.prog 21 #[.slice A n c, .int .u8 x] w fun e w' => e = .returned (.bool true) ∧ Below w.heap.size w w' := by
  obtain ⟨L, hL⟩ : ∃ L, L = 1 + x % 14 := ⟨_, rfl⟩
  have E1 : Hid ((1 : Int) + (x : Int) % 14 = (L : Int)) := by show _ = _; omega
  have hl1 : 1 ≤ L := by omega
  have hl2 : L ≤ 14 := by omega
  have C1 := fun wx (h : Below w.heap.size w wx) => lens_any wx A n c ks (L : Nat) hn (by omega) (by omega) (by omega) h32 ((ha.below h).mono h.size)
  have C2 := fun wx (h : Below w.heap.size w wx) => lens_any wx A n c ks ((L : Int) + 1) hn (by omega) (by omega) (by omega) h32 ((ha.below h).mono h.size)
  unfold LensPost at C1 C2
  have C3 := Lib.hid (fun (wx : World) (B : Option Addr) (m d : Nat) (ls : List Nat) (h : Below w.heap.size w wx) hm hM h8 hb => cost_any wx A B n c m d ks ls hn hm (by omega) hM h32 h8 ((ha.below h).mono h.size) hb)
  have g1 : decide (300 < n) = false := by simp; omega
  have g2 : decide ((300 : Int) < (n : Int)) = false := by simp; omega
  have hLC : ((L : Int) + 1) = ((L + 1 : Nat) : Int) := by omega
  by_cases hE : lensE ks (L : Nat) = 0
  · obtain ⟨hE2, hle⟩ := lens_more (ks := ks) (L := L) (by omega) hE
    rw [← hLC] at hE2 hle
    have e1 := lensO_length hE
    have e2 := lensO_length hE2
    obtain ⟨a1, a2⟩ := costO_lens hE
    obtain ⟨b1, b2⟩ := costO_lens hE2
    have S1 := Lib.hid (lensO_small (ks := ks) (limit := (L : Nat)))
    have S2 := Lib.hid (lensO_small (ks := ks) (limit := (L : Int) + 1))
    rw [hE, e1, hn] at C1
    rw [hE2, e2, hn] at C2
    rw [hn] at e1 e2
    rw [← a2, ← b2] at hle
    clear a2 b2
    generalize lensO ks (L : Nat) = l1 at *
    generalize lensO ks ((L : Int) + 1) = l2 at *
    have HL1 := Lib.hid e1
    have HL2 := Lib.hid e2
    have HA1 := Lib.hid a1
    have HB1 := Lib.hid b1
    have D1 := Lib.hid C1
    have D2 := Lib.hid C2
    clear hE hE2 e1 e2 a1 b1 hLC hL h32 hn ha C1 C2
    go_enter Try.func21, Try.ntmps21
    go_wp2_with fail
    refine (alive07 _).mono ?_
    rintro e w1 ⟨rfl, hb1⟩
    go_wp2_with fail
    rw [E1.out]
    refine (D1.out _ hb1).mono ?_
    rintro e w2 ⟨A2, c2, rfl, hr2, hwf2, hb2⟩
    have hb12 : Below w.heap.size w w2 := bel_step hb2 hb1.size hb1
    go_wp2_with fail
    refine (D2.out _ hb12).mono ?_
    rintro e w3 ⟨A3, c3, rfl, hr3, hwf3, hb3⟩
    have hb13 : Below w.heap.size w w3 := bel_step hb3 hb12.size hb12
    have hr2' := (hr2.below hb3).mono hb3.size
    go_wp2_with fail
    refine (C3.out w3 A2 n c2 l1 hb13 HL1.out (by omega) S1.out hr2').mono ?_
    rintro e w4 ⟨rfl, hd4⟩
    have hb14 := Drawn.bel hd4 hb13
    have hb34 : Below w3.heap.size w3 w4 := Drawn.bel hd4 (Below.refl _ _)
    rw [HA1.out]
    go_wp2_with fail
    refine (C3.out w4 A3 n c3 l2 hb14 HL2.out (by omega) S2.out ((hr3.below hb34).mono hb34.size)).mono ?_
    rintro e w5 ⟨rfl, hd5⟩
    have hb15 := Drawn.bel hd5 hb14
    rw [HB1.out]
    go_wp2_with fail
    go_ret
    exact ⟨by simp, hb15⟩
  · have hE6 : lensE ks (L : Nat) = 6 := by
      rcases lensE_two ks L (by omega) hl1 (by omega) with h | h
      · exact absurd h hE
      · exact h
    rw [hE6] at C1
    have D1 := Lib.hid C1
    have D2 := Lib.hid C2
    clear hE hE6 hLC hL h32 hn ha C1 C2
    go_enter Try.func21, Try.ntmps21
    go_wp2_with fail
    refine (alive07 _).mono ?_
    rintro e w1 ⟨rfl, hb1⟩
    go_wp2_with fail
    rw [E1.out]
    refine (D1.out _ hb1).mono ?_
    rintro e w2 ⟨A2, c2, rfl, hr2, hwf2, hb2⟩
    have hb12 : Below w.heap.size w w2 := bel_step hb2 hb1.size hb1
    go_wp2_with fail
    refine (D2.out _ hb12).mono ?_
    rintro e w3 ⟨A3, c3, rfl, hr3, hwf3, hb3⟩
    have hb13 : Below w.heap.size w w3 := bel_step hb3 hb12.size hb12
    go_wp2_with fail
    go_ret
    exact ⟨rfl, hb13⟩

/-! ### LensRare -/
set_option maxHeartbeats 1000000 in
set_option maxRecDepth 100000 in
theorem law_rare (w : World) (A : Option Addr) (n c x y : Nat) (ks : List Nat) (limit : Int) (hn : ks.length = n) (hN : n ≤ 9223372036854775807) (hl1 : -9223372036854775808 ≤ limit) (hl2 : limit ≤ 9223372036854775807) (hx : x ≤ 255) (hy : y ≤ 255) (h32 : ∀ x ∈ ks, x < 4294967296) (ha : Row w w.heap.size A n 1 (numF .u32 ks)) :
    Calls Try.prog 17 #[.slice A n c, .int .i64 limit, .int .u8 x, .int .u8 y] w fun e w' => e = .returned (.bool true) ∧ Below w.heap.size w w' := by
  have C1 := fun wx (h : Below w.heap.size w wx) => lens_any wx A n c ks limit hn (by omega) (by omega) (by omega) h32 ((ha.below h).mono h.size)
  unfold LensPost at C1
  by_cases h0 : n = 0
  · subst h0
    clear hn C1
    go_enter Try.func17, Try.ntmps17
    go_wp2_with fail
    refine (alive07 _).mono ?_
    rintro e w1 ⟨rfl, hb1⟩
    go_wp2_with fail
    go_ret
    exact ⟨rfl, hb1⟩
  · have g0 : ((n : Int) == 0) = false := by simp; omega
    have gp : 0 < n := by omega
    by_cases hE : lensE ks limit = 0
    · have e1 := lensO_length hE
      obtain ⟨hn3, L, hLL, q1, q2, q3, eO⟩ := ok_parts hE
      rw [hE, e1, hn] at C1
      rw [hn] at e1
      obtain ⟨a, hA⟩ : ∃ a, a = x % n := ⟨_, rfl⟩
      obtain ⟨b, hB⟩ : ∃ b, b = y % n := ⟨_, rfl⟩
      have EA : Hid ((x : Int) % (n : Int) = (a : Int)) := by show _ = _; rw [hA]; simp
      have EB : Hid ((y : Int) % (n : Int) = (b : Int)) := by show _ = _; rw [hB]; simp
      have han : a < n := by rw [hA]; exact Nat.mod_lt _ gp
      have hbn : b < n := by rw [hB]; exact Nat.mod_lt _ gp
      have hrare : Lt (kOf ks) a b → kOf ks a ≠ 0 → (lensO ks limit).getD b 0 ≤ (lensO ks limit).getD a 0 := by
        intro hlt hka
        rw [eO, range_getD (by omega), range_getD (by omega)]
        exact lenS_rare (order_mem.2 ⟨by omega, hka⟩) hlt
      generalize lensO ks limit = l at *
      have HN := Lib.hid hn
      have HL := Lib.hid e1
      have HRARE := Lib.hid hrare
      have D1 := Lib.hid C1
      have HA := Lib.hid ha
      clear hE e1 eO hLL hA hB hrare hn C1 ha h32 h0 q3
      go_enter Try.func17, Try.ntmps17
      go_wp2_with fail
      refine (alive07 _).mono ?_
      rintro e w1 ⟨rfl, hb1⟩
      go_wp2_with fail
      refine (D1.out _ hb1).mono ?_
      rintro e w2 ⟨A2, c2, rfl, hr2, hwf2, hb2⟩
      have hb12 : Below w.heap.size w w2 := bel_step hb2 hb1.size hb1
      obtain ⟨ob, off, ka, rfl, hob, hka, c0⟩ := num_cell (HA.out.below hb12) HN.out han
      obtain ⟨ob', off', kb, e2, hob', hkb, c1⟩ := num_cell (HA.out.below hb12) HN.out hbn
      injection e2 with e2
      injection e2 with e3 e4
      subst e3 e4
      obtain ⟨lb, loff, va, rfl, hlb, hva, d0⟩ := num_cell hr2 HL.out han
      obtain ⟨lb', loff', vb, e2, hlb', hvb, d1⟩ := num_cell hr2 HL.out hbn
      injection e2 with e2
      injection e2 with e3 e4
      subst e3 e4
      have hR : (ka < kb ∨ (ka = kb ∧ a < b)) → ka ≠ 0 → vb ≤ va := by
        intro h1 h2
        have := HRARE.out (by unfold Lt kOf; rw [List.getD_eq_getElem?_getD, List.getD_eq_getElem?_getD, hka, hkb]; exact h1) (by unfold kOf; rw [List.getD_eq_getElem?_getD, hka]; exact h2)
        rw [List.getD_eq_getElem?_getD, List.getD_eq_getElem?_getD, hva, hvb] at this
        exact this
      have HR := Lib.hid hR
      have s1 : IntKind.i64.wrap (x : Int) = (x : Int) := IntWalk.i64_in _ (by omega)
      have s2 : IntKind.i64.wrap (y : Int) = (y : Int) := IntWalk.i64_in _ (by omega)
      have s3 : IntKind.i64.wrap (a : Int) = (a : Int) := IntWalk.i64_in _ (by omega)
      have s4 : IntKind.i64.wrap (b : Int) = (b : Int) := IntWalk.i64_in _ (by omega)
      have t1 : (x : Int).tmod (n : Int) = (a : Int) := by rw [Int.tmod_eq_emod_of_nonneg (by omega)]; exact EA.out
      have t2 : (y : Int).tmod (n : Int) = (b : Int) := by rw [Int.tmod_eq_emod_of_nonneg (by omega)]; exact EB.out
      have gz : ¬ n = 0 := by omega
      have z0 : (0 : Int) ≤ (a : Int) := by omega
      have z1 : (a : Int) < (n : Int) := by omega
      have z2 : (0 : Int) ≤ (b : Int) := by omega
      have z3 : (b : Int) < (n : Int) := by omega
      clear hR hka hkb hva hvb
      go_wp2_with fail
      go_quiet (fail)
      clear s1 s2 s3 s4 t1 t2
      have d0' : (w2.drewN nq).cell? ⟨lb, loff + a, none⟩ = some (.int .u8 (va : Nat)) := d0
      have d1' : (w2.drewN nq).cell? ⟨lb, loff + b, none⟩ = some (.int .u8 (vb : Nat)) := d1
      have c0' : (w2.drewN nq).cell? ⟨ob, off + a, none⟩ = some (.int .u32 (ka : Nat)) := c0
      have c1' : (w2.drewN nq).cell? ⟨ob, off + b, none⟩ = some (.int .u32 (kb : Nat)) := c1
      have hb13 : Below w.heap.size w (w2.drewN nq) := below_drewN hb12 nq
      clear c0 c1 d0 d1
      generalize w2.drewN nq = w3 at *
      by_cases ha0 : ka = 0
      · have ha1 : ((ka : Int) == 0) = true := by simp; omega
        subst ha0
        go_wp2_with fail
        go_ret
        exact ⟨by simp, hb13⟩
      · have ha1 : ((ka : Int) == 0) = false := by simp; omega
        by_cases hb0 : kb = 0
        · subst hb0
          go_wp2_with fail
          go_ret
          exact ⟨by simp, hb13⟩
        · have hb1 : ((kb : Int) == 0) = false := by simp; omega
          by_cases hlt : ka < kb
          · have hge := HR.out (.inl hlt) ha0
            have k1 : decide (ka < kb) = true := by simpa using hlt
            have k2 : decide ((ka : Int) < (kb : Int)) = true := by simp; omega
            go_wp2_with fail
            go_quiet (fail)
            have d2 : (w3.drewN nq).cell? ⟨lb, loff + a, none⟩ = some (.int .u8 (va : Nat)) := d0'
            have d3 : (w3.drewN nq).cell? ⟨lb, loff + b, none⟩ = some (.int .u8 (vb : Nat)) := d1'
            have hb14 : Below w.heap.size w (w3.drewN nq) := below_drewN hb13 nq
            clear d0' d1' c0' c1'
            generalize w3.drewN nq = w4 at *
            go_wp2_with fail
            go_quiet (fail)
            go_wp2_with fail
            go_ret
            exact ⟨by simp, below_drewN hb14 _⟩
          · have k1 : decide (ka < kb) = false := by simpa using hlt
            have k2 : decide ((ka : Int) < (kb : Int)) = false := by simp; omega
            by_cases heq : ka = kb
            · have k3 : ((ka : Int) == (kb : Int)) = true := by simp; omega
              by_cases hab : a < b
              · have hge := HR.out (.inr ⟨heq, hab⟩) ha0
                have k4 : decide (a < b) = true := by simpa using hab
                have k5 : decide ((a : Int) < (b : Int)) = true := by simp; omega
                subst heq
                go_wp2_with fail
                go_quiet (fail)
                have d2 : (w3.drewN nq).cell? ⟨lb, loff + a, none⟩ = some (.int .u8 (va : Nat)) := d0'
                have d3 : (w3.drewN nq).cell? ⟨lb, loff + b, none⟩ = some (.int .u8 (vb : Nat)) := d1'
                have hb14 : Below w.heap.size w (w3.drewN nq) := below_drewN hb13 nq
                clear d0' d1' c0' c1'
                generalize w3.drewN nq = w4 at *
                go_wp2_with fail
                go_quiet (fail)
                go_wp2_with fail
                go_ret
                exact ⟨by simp, below_drewN hb14 _⟩
              · have k4 : decide (a < b) = false := by simpa using hab
                have k5 : decide ((a : Int) < (b : Int)) = false := by simp; omega
                subst heq
                go_wp2_with fail
                go_quiet (fail)
                go_wp2_with fail
                go_ret
                exact ⟨rfl, below_drewN hb13 _⟩
            · have k3 : ((ka : Int) == (kb : Int)) = false := by simp; omega
              go_wp2_with fail
              go_quiet (fail)
              go_wp2_with fail
              go_ret
              exact ⟨rfl, below_drewN hb13 _⟩
    · have hEb : (lensE ks limit != 0) = true := by simpa using hE
      generalize lensE ks limit = er at *
      have D1 := Lib.hid C1
      clear hn hE ha h32 C1
      go_enter Try.func17, Try.ntmps17
      go_wp2_with fail
      refine (alive07 _).mono ?_
      rintro e w1 ⟨rfl, hb1⟩
      go_wp2_with fail
      refine (D1.out _ hb1).mono ?_
      rintro e w2 ⟨A2, c2, rfl, hr2, hwf2, hb2⟩
      have hb12 : Below w.heap.size w w2 := bel_step hb2 hb1.size hb1
      go_wp2_with fail
      go_ret
      exact ⟨rfl, hb12⟩
end Go.Proofs.Ytdfpcnldfibceaa.Lens

/-
  The walk of slices' merge in place, by package lens' comparison.
-/
import Derived.Test.YtdfpcnldfibceaaSortIns
namespace Go.Proofs.Ytdfpcnldfibceaa.Srt
open Go.RowKit Go.Proofs.Ytdfpcnldfibceaa.Mem Go.Proofs.Ytdfpcnldfibceaa.Own

def Drawn (w wr : World) : Prop := ∃ q, wr = w.drewN q
theorem Drawn.refl (w : World) : Drawn w w := ⟨0, (World.drewN_zero w).symm⟩
theorem Drawn.more {w wr : World} (h : Drawn w wr) (q : Nat) : Drawn w (wr.drewN q) := by
  obtain ⟨p, rfl⟩ := h
  exact ⟨p + q, World.drewN_drewN _ _ _⟩
theorem Drawn.kept {K : Nat → Prop} {w wr : World} (h : Drawn w wr) : Kept K w wr := by
  obtain ⟨p, rfl⟩ := h
  exact (Kept.refl _ _).drewN p
theorem Drawn.dat {w wr : World} {g n : Nat} {f : Nat → Nat} (h : Drawn w wr) (hd : Dat w g n f) : Dat wr g n f := by
  obtain ⟨p, rfl⟩ := h
  exact hd.drewN p
theorem Drawn.put {w wr : World} {g n : Nat} {f : Nat → Nat} (h : Drawn w wr) (hd : Dat w g n f) : Put g n f w wr := ⟨h.dat hd, h.kept⟩

/-- What the search of a place knows. -/
def LoHi (P : Nat → Prop) (lo hi i j : Nat) : Prop := (i = lo ∨ P (i - 1)) ∧ (j = hi ∨ ¬ P j)

set_option maxHeartbeats 1000000 in
set_option maxRecDepth 100000 in
theorem sym_left (w : World) (Bo g n c a b N : Nat) (k f : Nat → Nat) (hN : n ≤ 4611686018427387904) (hab : a + 1 < b) (hb : b ≤ n) (hr : Sor k f (a + 1) b) (hlow : Low f a (a + 1) b) (hall : All N n f) (hd : Dat w g n f) (hc : CmpOk Bo g N w k) :
    Calls Try.prog 180 #[.slice (some ⟨g, 0, none⟩) n c, .int .i64 a, .int .i64 ((a + 1 : Nat) : Int), .int .i64 b, .func (Fn.func 157) #[] #[.pointer (some ⟨Bo, 0, none⟩)]] w (InsPost k f g n a b w) := by
  have eK : ∀ args w, (callFunc 157 args).run Try.prog w = .ok (.enter 157 args) w := fun args w => by simp [callFunc, go_sem, Try.func157]; rfl
  have HR := Lib.hid hr
  have HL := Lib.hid hlow
  have HC := Lib.hid hc
  have HD := Lib.hid hd
  have HA := Lib.hid hall
  obtain ⟨m, hm⟩ : ∃ m, m = a + 1 := ⟨_, rfl⟩
  have b0 : ((m : Int) - (a : Int) == 1) = true := by simp; omega
  rw [← hm]
  have HM := Lib.hid hm
  have hm1 : a + 1 ≤ m := by omega
  have hm2 : m ≤ a + 1 := by omega
  clear hr hlow hc hd hall hm
  go_enter Try.func180, Try.ntmps180
  go_wp2_with fail
  go_loopw [10, 11] (fun iv jv wr => ∃ i j : Nat, m ≤ i ∧ i ≤ j ∧ j ≤ b ∧ iv = .int .i64 i ∧ jv = .int .i64 j ∧ Hid (LoHi (fun i => k (f i) < k (f a)) m b i j) ∧ Hid (Drawn w wr)) (fun i j _ => (intOf j).toNat - (intOf i).toNat)
  case atStart => exact ⟨m, b, by omega, by omega, by omega, rfl, rfl, ⟨.inl rfl, .inl rfl⟩, Drawn.refl w⟩
  case round =>
    obtain ⟨i, j, hi1, hij, hj1, rfl, rfl, hQ, hD⟩ := hrel
    by_cases hlt : i < j
    · obtain ⟨h, hh⟩ : ∃ h, h = (i + j) / 2 := ⟨_, rfl⟩
      have hh1 : i ≤ h := by omega
      have hh2 : h < j := by omega
      have hE : Hid (((i : Int) + (j : Int)) / 2 = (h : Int)) := by show _ = _; omega
      clear hh
      have c1 := (hD.out.dat HD.out).cell (i := h) (by omega)
      have c2 := (hD.out.dat HD.out).cell (i := a) (by omega)
      have hcm := fun q => HC.out (f h) (f a) (wr.drewN q) (HA.out h (by omega)) (HA.out a (by omega)) ((hD.out.more q).kept)
      have x3 : (0 : Int) ≤ (h : Int) := by omega
      have x4 : (h : Int) < (n : Int) := by omega
      have x5 : (0 : Int) ≤ (a : Int) := by omega
      have x6 : (a : Int) < (n : Int) := by omega
      obtain ⟨cv, hcv⟩ : ∃ cv, cv = cmp3 (k (f h)) (k (f a)) := ⟨_, rfl⟩
      rw [← hcv] at hcm
      have HD2 : ∀ q, Hid (Drawn w (wr.drewN q)) := fun q => hD.out.more q
      by_cases hk : k (f h) < k (f a)
      · have d1 : cv < 0 := by rw [hcv]; exact cmp3_lt hk
        have HX : Hid (LoHi (fun i => k (f i) < k (f a)) m b (h + 1) j) := ⟨.inr hk, hQ.out.2⟩
        clear hcv hk hQ
        generalize f h = v1 at *
        generalize f a = v2 at *
        go_wp2_with fail
        rw [hE.out]
        go_quiet ((go_at_call 157; exact Calls.quiet_of (hcm _)))
        have HD3 := HD2 nq
        clear HD2 hcm c1 c2 hD
        go_wp2_with fail
        go_roundw
        case rel => go_light; exact ⟨h + 1, j, by omega, by omega, by omega, by go_num, rfl, HX, HD3⟩
        case measure => go_light; simp [intOf]; omega
      · have d1 : ¬ cv < 0 := by rw [hcv]; have := cmp3_ge hk; omega
        have HX : Hid (LoHi (fun i => k (f i) < k (f a)) m b i h) := ⟨hQ.out.1, .inr hk⟩
        clear hcv hk hQ
        generalize f h = v1 at *
        generalize f a = v2 at *
        go_wp2_with fail
        rw [hE.out]
        go_quiet ((go_at_call 157; exact Calls.quiet_of (hcm _)))
        have HD3 := HD2 nq
        clear HD2 hcm c1 c2 hD
        go_wp2_with fail
        go_roundw
        case rel => go_light; exact ⟨i, h, by omega, by omega, by omega, rfl, rfl, HX, HD3⟩
        case measure => go_light; simp [intOf]; omega
    · obtain rfl : i = j := by omega
      have p0 : Hid (Put g n (rot f a m (m + 0)) w wr) := by
        show Put _ _ _ _ _
        rw [Nat.add_zero, rot_id f (by omega) (Nat.le_refl _) (.inr rfl)]
        exact hD.out.put HD.out
      have HF : Hid (InsPost k f g n a b w (.returned (.tuple #[])) = InsPost k f g n a b w (.returned (.tuple #[]))) := rfl
      have HMER : Hid (Mer k f (rot f a m i) a b) := by
        have e := HM.out
        subst e
        refine put_first hi1 (by omega) HR.out HL.out ?_ ?_
        · rcases hQ.out.2 with h | h
          · exact .inl h
          · exact .inr (by omega)
        · exact hQ.out.1
      clear hD hQ HF
      obtain ⟨wo, rfl⟩ : ∃ wo : World, wo = wr := ⟨_, rfl⟩
      go_wp2_with fail
      go_loopw [13] (fun kv wr => ∃ t : Nat, m + t ≤ i ∧ kv = .int .i64 ((a + t : Nat) : Int) ∧ Hid (Put g n (rot f a m (m + t)) w wr)) (fun kv _ => i - (intOf kv).toNat)
      case atStart => exact ⟨0, by omega, rfl, p0⟩
      case round =>
        clear p0
        obtain ⟨t, ht, rfl, hp⟩ := hrel
        by_cases hlt : m + t < i
        · obtain ⟨p, hp0⟩ : ∃ p, p = a + t := ⟨_, rfl⟩
          have c1 := hp.out.1.cell (i := p) (by omega)
          have c2 := hp.out.1.cell (i := p + 1) (by omega)
          have f1 := hp.out.1.frozen p
          have f2 := hp.out.1.frozen (p + 1)
          have hsw := (hp.out.swap (p := p) (q := p + 1) (by omega) (by omega) (by omega)).drew
          have e := rot_up f a t
          rw [← HM.out, ← hp0] at e
          rw [e] at hsw
          have HNX := Lib.hid hsw
          rw [← hp0]
          have hp1 : p < i - 1 := by omega
          have hp2 : a + (t + 1) = p + 1 := by omega
          have HP2 := Lib.hid hp2
          clear hsw e hp hp0 hp2
          generalize rot f a m (m + t) p = v1 at *
          generalize rot f a m (m + t) (p + 1) = v2 at *
          have s1 : IntKind.i64.wrap ((p : Int) + 1) = (p : Int) + 1 := IntWalk.i64_in _ (by omega)
          have x1 : (0 : Int) ≤ (p : Int) := by omega
          have x2 : (0 : Int) ≤ (p : Int) + 1 := by omega
          have x3 : (p : Int) < (n : Int) := by omega
          have x4 : (p : Int) + 1 < (n : Int) := by omega
          have x6 : ((p : Int) + 1).toNat = p + 1 := by omega
          have x7 : (p : Int) < (i : Int) - 1 := by omega
          go_wp2_with fail
          go_region
          clear s1 x6
          go_wp2_with fail
          go_roundw
          case rel => go_light; exact ⟨t + 1, by omega, congrArg (Value.int .i64) (by have := HP2.out; omega), HNX⟩
          case measure => go_light; simp [intOf]; omega
        · obtain rfl : m + t = i := by omega
          have x7 : ¬ (a + t < m + t - 1) := by omega
          have x8 : ¬ (((a + t : Nat) : Int) < ((m + t : Nat) : Int) - 1) := by omega
          go_wp2_with fail
          refine bodyPost_ret (v := .tuple #[]) (results_none rfl _ _ _) rfl ⟨rfl, _, hp.out, HMER.out⟩

set_option maxHeartbeats 1000000 in
set_option maxRecDepth 100000 in
theorem sym_right (w : World) (Bo g n c a m N : Nat) (k f : Nat → Nat) (hN : n ≤ 4611686018427387904) (ham : a + 1 < m) (hb : m + 1 ≤ n) (hl : Sor k f a m) (hlow : Low f a m (m + 1)) (hall : All N n f) (hd : Dat w g n f) (hc : CmpOk Bo g N w k) :
    Calls Try.prog 180 #[.slice (some ⟨g, 0, none⟩) n c, .int .i64 a, .int .i64 m, .int .i64 ((m + 1 : Nat) : Int), .func (Fn.func 157) #[] #[.pointer (some ⟨Bo, 0, none⟩)]] w (InsPost k f g n a (m + 1) w) := by
  have eK : ∀ args w, (callFunc 157 args).run Try.prog w = .ok (.enter 157 args) w := fun args w => by simp [callFunc, go_sem, Try.func157]; rfl
  have HL := Lib.hid hl
  have HLW := Lib.hid hlow
  have HC := Lib.hid hc
  have HD := Lib.hid hd
  have HA := Lib.hid hall
  obtain ⟨b, hm⟩ : ∃ b, b = m + 1 := ⟨_, rfl⟩
  have b0 : ((m : Int) - (a : Int) == 1) = false := by simp; omega
  have b1 : ((b : Int) - (m : Int) == 1) = true := by simp; omega
  rw [← hm]
  have HM := Lib.hid hm
  have hm1 : m + 1 ≤ b := by omega
  have hm2 : b ≤ m + 1 := by omega
  clear hl hlow hc hd hall hm
  go_enter Try.func180, Try.ntmps180
  go_wp2_with fail
  go_loopw [14, 15] (fun iv jv wr => ∃ i j : Nat, a ≤ i ∧ i ≤ j ∧ j ≤ m ∧ iv = .int .i64 i ∧ jv = .int .i64 j ∧ Hid (LoHi (fun i => ¬ k (f m) < k (f i)) a m i j) ∧ Hid (Drawn w wr)) (fun i j _ => (intOf j).toNat - (intOf i).toNat)
  case atStart => exact ⟨a, m, by omega, by omega, by omega, rfl, rfl, ⟨.inl rfl, .inl rfl⟩, Drawn.refl w⟩
  case round =>
    obtain ⟨i, j, hi1, hij, hj1, rfl, rfl, hQ, hD⟩ := hrel
    by_cases hlt : i < j
    · obtain ⟨h, hh⟩ : ∃ h, h = (i + j) / 2 := ⟨_, rfl⟩
      have hh1 : i ≤ h := by omega
      have hh2 : h < j := by omega
      have hE : Hid (((i : Int) + (j : Int)) / 2 = (h : Int)) := by show _ = _; omega
      clear hh
      have c1 := (hD.out.dat HD.out).cell (i := h) (by omega)
      have c2 := (hD.out.dat HD.out).cell (i := m) (by omega)
      have hcm := fun q => HC.out (f m) (f h) (wr.drewN q) (HA.out m (by omega)) (HA.out h (by omega)) ((hD.out.more q).kept)
      have x3 : (0 : Int) ≤ (h : Int) := by omega
      have x4 : (h : Int) < (n : Int) := by omega
      have x5 : (0 : Int) ≤ (m : Int) := by omega
      have x6 : (m : Int) < (n : Int) := by omega
      obtain ⟨cv, hcv⟩ : ∃ cv, cv = cmp3 (k (f m)) (k (f h)) := ⟨_, rfl⟩
      rw [← hcv] at hcm
      have HD2 : ∀ q, Hid (Drawn w (wr.drewN q)) := fun q => hD.out.more q
      by_cases hk : k (f m) < k (f h)
      · have d1 : decide (cv < 0) = true := by rw [hcv]; have := cmp3_lt hk; simpa using this
        have HX : Hid (LoHi (fun i => ¬ k (f m) < k (f i)) a m i h) := ⟨hQ.out.1, .inr (fun hn => hn hk)⟩
        clear hcv hk hQ
        generalize f h = v1 at *
        generalize f m = v2 at *
        go_wp2_with fail
        rw [hE.out]
        go_quiet ((go_at_call 157; exact Calls.quiet_of (hcm _)))
        have HD3 := HD2 nq
        clear HD2 hcm c1 c2 hD
        go_wp2_with fail
        go_roundw
        case rel => go_light; exact ⟨i, h, by omega, by omega, by omega, rfl, rfl, HX, HD3⟩
        case measure => go_light; simp [intOf]; omega
      · have d1 : decide (cv < 0) = false := by rw [hcv]; have := cmp3_ge hk; simp; omega
        have HX : Hid (LoHi (fun i => ¬ k (f m) < k (f i)) a m (h + 1) j) := ⟨.inr hk, hQ.out.2⟩
        clear hcv hk hQ
        generalize f h = v1 at *
        generalize f m = v2 at *
        go_wp2_with fail
        rw [hE.out]
        go_quiet ((go_at_call 157; exact Calls.quiet_of (hcm _)))
        have HD3 := HD2 nq
        clear HD2 hcm c1 c2 hD
        go_wp2_with fail
        go_roundw
        case rel => go_light; exact ⟨h + 1, j, by omega, by omega, by omega, by go_num, rfl, HX, HD3⟩
        case measure => go_light; simp [intOf]; omega
    · obtain rfl : i = j := by omega
      have p0 : Hid (Put g n (rot f m m (m + 1)) w wr) := by
        show Put _ _ _ _ _
        rw [rot_id f (Nat.le_refl _) (by omega) (.inl rfl)]
        exact hD.out.put HD.out
      have HMER : Hid (Mer k f (rot f i m (m + 1)) a (m + 1)) := by
        refine put_last hi1 hj1 HL.out HLW.out ?_ ?_
        · rcases hQ.out.1 with h | h
          · exact .inl h
          · exact .inr (by omega)
        · rcases hQ.out.2 with h | h
          · exact .inl h
          · exact .inr (by omega)
      clear hD hQ
      obtain ⟨wo, rfl⟩ : ∃ wo : World, wo = wr := ⟨_, rfl⟩
      go_wp2_with fail
      go_loopw [17] (fun kv wr => ∃ t : Nat, i ≤ t ∧ t ≤ m ∧ kv = .int .i64 (t : Int) ∧ Hid (Put g n (rot f t m (m + 1)) w wr)) (fun kv _ => (intOf kv).toNat)
      case atStart => exact ⟨m, by omega, by omega, rfl, p0⟩
      case round =>
        clear p0
        obtain ⟨t, ht1, ht2, rfl, hp⟩ := hrel
        by_cases hlt : i < t
        · have c1 := hp.out.1.cell (i := t) (by omega)
          have c2 := hp.out.1.cell (i := t - 1) (by omega)
          have f1 := hp.out.1.frozen t
          have f2 := hp.out.1.frozen (t - 1)
          have hsw := (hp.out.swap (p := t) (q := t - 1) (by omega) (by omega) (by omega)).drew
          have e := rot_down f m (t - 1) (by omega)
          rw [show t - 1 + 1 = t by omega] at e
          rw [e] at hsw
          have HNX := Lib.hid hsw
          clear hsw e hp
          generalize rot f t m (m + 1) t = v1 at *
          generalize rot f t m (m + 1) (t - 1) = v2 at *
          have s1 : IntKind.i64.wrap ((t : Int) - 1) = (t : Int) - 1 := IntWalk.i64_in _ (by omega)
          have x1 : (0 : Int) ≤ (t : Int) := by omega
          have x2 : (0 : Int) ≤ (t : Int) - 1 := by omega
          have x3 : (t : Int) < (n : Int) := by omega
          have x4 : (t : Int) - 1 < (n : Int) := by omega
          have x6 : ((t : Int) - 1).toNat = t - 1 := by omega
          have y1 : (1 : Int) ≤ (t : Int) := by omega
          have y3 : 0 < t := by omega
          have y4 : (0 : Int) < (t : Int) := by omega
          go_wp2_with fail
          go_region
          clear s1 x6
          go_wp2_with fail
          go_roundw
          case rel => go_light; exact ⟨t - 1, by omega, by omega, congrArg (Value.int .i64) (by omega), HNX⟩
          case measure => go_light; simp [intOf]; omega
        · obtain rfl : i = t := by omega
          go_wp2_with fail
          refine bodyPost_ret (v := .tuple #[]) (results_none rfl _ _ _) rfl ⟨rfl, _, hp.out, ?_⟩
          rw [HM.out]
          exact HMER.out
end Go.Proofs.Ytdfpcnldfibceaa.Srt

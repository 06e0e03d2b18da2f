/-
  The walk of slices' insertion sort of a row of numbers, by package lens' comparison.
  The walk of slices' merge in place, by package lens' comparison.
-/
import Derived.Test.YtidclmmnfienlaaGreatDoorSortBase

namespace Go.Proofs.YtidclmmnfienlaaGreatDoor.Srt
open Go.RowKit Go.Proofs.YtidclmmnfienlaaGreatDoor.Mem Go.Proofs.YtidclmmnfienlaaGreatDoor.Own

def All (N n : Nat) (f : Nat → Nat) : Prop := ∀ i, i < n → f i < N
theorem All.mer {N n a b : Nat} {k f f' : Nat → Nat} (h : All N n f) (hm : Mer k f f' a b) (hb : b ≤ n) : All N n f' := fun i hi => by
  by_cases e : a ≤ i ∧ i < b
  · obtain ⟨i', h1, h2, h3⟩ := hm.mem e.1 e.2
    rw [← h3]; exact h i' (by omega)
  · rw [hm.2.2 i (by omega)]; exact h i hi
theorem All.rot {N n a m b : Nat} {f : Nat → Nat} (h : All N n f) (ham : a ≤ m) (hmb : m ≤ b) (hb : b ≤ n) : All N n (rot f a m b) := fun i hi => by
  unfold Srt.rot
  split
  · exact h _ (by omega)
  · split
    · exact h _ (by omega)
    · exact h i hi

def cmp3 (a b : Nat) : Int := if a < b then -1 else if b < a then 1 else 0
theorem cmp3_lt {a b : Nat} (h : a < b) : cmp3 a b < 0 := by unfold cmp3; rw [if_pos h]; omega
theorem cmp3_ge {a b : Nat} (h : ¬ a < b) : 0 ≤ cmp3 a b := by unfold cmp3; rw [if_neg h]; split <;> omega
/-- What the comparison is to do. -/
def CmpOk (Bo g N : Nat) (w0 : World) (k : Nat → Nat) : Prop := ∀ (x y : Nat) (w : World), x < N → y < N → Kept (fun b => b < w0.heap.size ∧ b ≠ g) w0 w →
  Calls Tryz.prog 170 #[.int .i64 x, .int .i64 y, .pointer (some ⟨Bo, 0, none⟩)] w fun e w' => e = .returned (.int .i64 (cmp3 (k x) (k y))) ∧ ∃ q, w' = w.drewN q
theorem CmpOk.keep {Bo g N : Nat} {w0 w1 : World} {k : Nat → Nat} (h : CmpOk Bo g N w0 k) (hk : Kept (fun b => b < w0.heap.size ∧ b ≠ g) w0 w1) : CmpOk Bo g N w1 k := by
  intro x y w hx hy hw
  have hz := hk.size
  exact h x y w hx hy (hk.trans ⟨hw.os, hw.tape, hw.output, hw.size, fun b hb => hw.block b ⟨by have := hb.1; omega, hb.2⟩⟩)

def InsPost (k f : Nat → Nat) (g n a b : Nat) (w : World) (e : Ending) (w' : World) : Prop := e = .returned (.tuple #[]) ∧ ∃ f', Put g n f' w w' ∧ Mer k f f' a b
def InsAt (k f : Nat → Nat) (g n a m : Nat) (w : World) (wr : World) : Prop := ∃ f', Put g n f' w wr ∧ Mer k f f' a m
def InnAt (k f1 : Nat → Nat) (g n m j : Nat) (w : World) (wr : World) : Prop := Put g n (rot f1 j m (m + 1)) w wr ∧ (j = m ∨ k (f1 m) < k (f1 j))

set_option maxHeartbeats 1000000 in
set_option maxRecDepth 100000 in
theorem ins_any (w : World) (Bo g n c a b N : Nat) (k f : Nat → Nat) (hN : n ≤ 4611686018427387904) (hab : a ≤ b) (hb : b ≤ n) (h0 : ∀ i j, a ≤ i → i < j → j < b → f i < f j) (hall : All N n f) (hd : Dat w g n f) (hc : CmpOk Bo g N w k) :
    Calls Tryz.prog 188 #[.slice (some ⟨g, 0, none⟩) n c, .int .i64 a, .int .i64 b, .func (Fn.func 170) #[] #[.pointer (some ⟨Bo, 0, none⟩)]] w (InsPost k f g n a b w) := by
  have H0 := Lib.hid h0
  have HC := Lib.hid hc
  have HD := Lib.hid hd
  have HA := Lib.hid hall
  clear h0 hc hd hall
  have eK : ∀ args w, (callFunc 170 args).run Tryz.prog w = .ok (.enter 170 args) w := fun args w => by simp [callFunc, go_sem, Tryz.func170]; rfl
  by_cases hlt : a < b
  · have p0 : Hid (InsAt k f g n a (a + 1) w w) := ⟨f, Put.refl HD.out, Mer.refl (Sor.few (by omega))⟩
    go_enter Tryz.func188, Tryz.ntmps188
    go_wp2_with fail
    go_loopw [8] (fun i wr => ∃ m : Nat, a + 1 ≤ m ∧ m ≤ b ∧ i = .int .i64 m ∧ Hid (InsAt k f g n a m w wr)) (fun i _ => b - (intOf i).toNat)
    case atStart => exact ⟨a + 1, by omega, by omega, by go_num, p0⟩
    case round =>
      clear p0
      obtain ⟨m, hm1, hm2, rfl, hI⟩ := hrel
      by_cases hmb : m < b
      · obtain ⟨f1, hp1, hmer⟩ := hI.out
        have q0 : Hid (InnAt k f1 g n m m w wr) := by
          refine ⟨?_, .inl rfl⟩
          rw [rot_id f1 (Nat.le_refl _) (by omega) (.inl rfl)]
          exact hp1
        have HM := Lib.hid hmer
        have HA1 := Lib.hid (HA.out.mer hmer (by omega))
        clear hI hp1 hmer
        obtain ⟨wo, rfl⟩ : ∃ wo : World, wo = wr := ⟨_, rfl⟩
        go_wp2_with fail
        go_loopw [9] (fun jv wr => ∃ j : Nat, a ≤ j ∧ j ≤ m ∧ jv = .int .i64 j ∧ Hid (InnAt k f1 g n m j w wr)) (fun j _ => (intOf j).toNat)
        case atStart => exact ⟨m, by omega, by omega, rfl, q0⟩
        case round =>
          clear q0
          obtain ⟨j, hj1, hj2, rfl, hQ⟩ := hrel
          have c1 := hQ.out.1.1.cell (i := j) (by omega)
          rw [rot_first f1 (Nat.le_refl _) (by omega), show j + (m - j) = m by omega] at c1
          have f1' := hQ.out.1.1.frozen j
          by_cases hja : a < j
          · have c2 := hQ.out.1.1.cell (i := j - 1) (by omega)
            rw [rot_ahead f1 (by omega)] at c2
            have f2 := hQ.out.1.1.frozen (j - 1)
            have hcm := fun q => HC.out (f1 m) (f1 (j - 1)) (wr.drewN q) (HA1.out m (by omega)) (HA1.out (j - 1) (by omega)) (hQ.out.1.2.drewN q)
            have s1 : IntKind.i64.wrap ((j : Int) - 1) = (j : Int) - 1 := IntWalk.i64_in _ (by omega)
            have x3 : (0 : Int) ≤ (j : Int) := by omega
            have x4 : (j : Int) < (n : Int) := by omega
            have x1 : (0 : Int) ≤ (j : Int) - 1 := by omega
            have y1 : (1 : Int) ≤ (j : Int) := by omega
            have y3 : 0 < j := by omega
            have y4 : (0 : Int) < (j : Int) := by omega
            have x2 : (j : Int) - 1 < (n : Int) := by omega
            have x5 : ((j : Int) - 1).toNat = j - 1 := by omega
            obtain ⟨cv, hcv⟩ : ∃ cv, cv = cmp3 (k (f1 m)) (k (f1 (j - 1))) := ⟨_, rfl⟩
            by_cases hk : k (f1 m) < k (f1 (j - 1))
            · have d1 : cv < 0 := by rw [hcv]; exact cmp3_lt hk
              rw [← hcv] at hcm
              have HNX : ∀ q, Hid (InnAt k f1 g n m (j - 1) w (((wr.drewN q).setCell ⟨g, j, none⟩ (.int .i64 (f1 (j - 1) : Nat))).setCell ⟨g, j - 1, none⟩ (.int .i64 (f1 m : Nat)))) := by
                intro q
                have hsw := (hQ.out.1.drewN q).swap (p := j) (q := j - 1) (by omega) (by omega) (by omega)
                have e := rot_down f1 m (j - 1) (by omega)
                rw [show j - 1 + 1 = j by omega] at e
                rw [e, rot_ahead f1 (by omega), rot_first f1 (Nat.le_refl _) (by omega), show j + (m - j) = m by omega] at hsw
                exact ⟨hsw, .inr hk⟩
              clear hcv
              generalize f1 m = v1 at *
              generalize f1 (j - 1) = v2 at *
              go_wp2_with fail
              go_quiet ((go_at_call 170; exact Calls.quiet_of (hcm _)))
              go_wp2_with fail
              go_region
              have HNX2 := HNX (nq + 1)
              clear HNX s1 x5 hcm hk c1 c2 hQ
              go_wp2_with fail
              go_roundw
              case rel => go_light; exact ⟨j - 1, by omega, by omega, congrArg (Value.int .i64) (by omega), HNX2⟩
              case measure => go_light; simp [intOf]; omega
            · have d1 : ¬ cv < 0 := by rw [hcv]; have := cmp3_ge hk; omega
              rw [← hcv] at hcm
              have HX : ∀ q, Hid (InsAt k f g n a (m + 1) w (wr.drewN q)) := fun q =>
                ⟨_, hQ.out.1.drewN q, ins_step H0.out HM.out hmb (by omega) hj1 hj2 (.inr (by omega)) hQ.out.2⟩
              clear hcv hk
              generalize f1 m = v1 at *
              generalize f1 (j - 1) = v2 at *
              go_wp2_with fail
              go_quiet ((go_at_call 170; exact Calls.quiet_of (hcm _)))
              have HX2 := HX nq
              clear HX s1 x5 hcm c1 c2 hQ
              go_wp2_with fail
              go_roundw
              case rel => go_light; exact ⟨m + 1, by omega, by omega, by go_num, HX2⟩
              case measure => go_light; simp [intOf]; omega
          · obtain rfl : j = a := by omega
            have HX : ∀ q, Hid (InsAt k f g n j (m + 1) w (wr.drewN q)) := fun q =>
              ⟨_, hQ.out.1.drewN q, ins_step H0.out HM.out hmb (by omega) hj1 hj2 (.inl rfl) hQ.out.2⟩
            have d0 : decide (j < j) = false := by simp
            have d1 : decide ((j : Int) < (j : Int)) = false := by simp
            generalize f1 m = v1 at *
            go_wp2_with fail
            go_quiet (fail)
            have HX2 := HX nq
            clear HX c1 hQ d0 d1
            go_wp2_with fail
            go_roundw
            case rel => go_light; exact ⟨m + 1, by omega, by omega, by go_num, HX2⟩
            case measure => go_light; simp [intOf]; omega
      · obtain rfl : m = b := by omega
        go_wp2_with fail
        refine bodyPost_end (results_none rfl _ _ _) rfl ⟨rfl, hI.out⟩
  · obtain rfl : a = b := by omega
    go_enter Tryz.func188, Tryz.ntmps188
    go_wp2_with fail
    refine wp_loop_rounds 1 ?_
    rw [rounds_succ]
    go_wp2_with fail
    refine bodyPost_end (results_none rfl _ _ _) rfl ⟨rfl, f, Put.refl HD.out, Mer.refl (Sor.few (by omega))⟩
end Go.Proofs.YtidclmmnfienlaaGreatDoor.Srt

namespace Go.Proofs.YtidclmmnfienlaaGreatDoor.Srt
open Go.RowKit Go.Proofs.YtidclmmnfienlaaGreatDoor.Mem Go.Proofs.YtidclmmnfienlaaGreatDoor.Own

def Drawn (w wr : World) : Prop := ∃ q, wr = w.drewN q
theorem Drawn.refl (w : World) : Drawn w w := ⟨0, (World.drewN_zero w).symm⟩
theorem Drawn.more {w wr : World} (h : Drawn w wr) (q : Nat) : Drawn w (wr.drewN q) := by
  obtain ⟨p, rfl⟩ := h
  exact ⟨p + q, World.drewN_drewN _ _ _⟩
theorem Drawn.kept {K : Nat → Prop} {w wr : World} (h : Drawn w wr) : Kept K w wr := by
  obtain ⟨p, rfl⟩ := h
  exact (Kept.refl _ _).drewN p
theorem Drawn.dat {w wr : World} {g n : Nat} {f : Nat → Nat} (h : Drawn w wr) (hd : Dat w g n f) : Dat wr g n f := by
  obtain ⟨p, rfl⟩ := h
  exact hd.drewN p
theorem Drawn.put {w wr : World} {g n : Nat} {f : Nat → Nat} (h : Drawn w wr) (hd : Dat w g n f) : Put g n f w wr := ⟨h.dat hd, h.kept⟩

/-- What the search of a place knows. -/
def LoHi (P : Nat → Prop) (lo hi i j : Nat) : Prop := (i = lo ∨ P (i - 1)) ∧ (j = hi ∨ ¬ P j)

set_option maxHeartbeats 1000000 in
set_option maxRecDepth 100000 in
theorem sym_left (w : World) (Bo g n c a b N : Nat) (k f : Nat → Nat) (hN : n ≤ 4611686018427387904) (hab : a + 1 < b) (hb : b ≤ n) (hr : Sor k f (a + 1) b) (hlow : Low f a (a + 1) b) (hall : All N n f) (hd : Dat w g n f) (hc : CmpOk Bo g N w k) :
    Calls Tryz.prog 189 #[.slice (some ⟨g, 0, none⟩) n c, .int .i64 a, .int .i64 ((a + 1 : Nat) : Int), .int .i64 b, .func (Fn.func 170) #[] #[.pointer (some ⟨Bo, 0, none⟩)]] w (InsPost k f g n a b w) := by
  have eK : ∀ args w, (callFunc 170 args).run Tryz.prog w = .ok (.enter 170 args) w := fun args w => by simp [callFunc, go_sem, Tryz.func170]; rfl
  have HR := Lib.hid hr
  have HL := Lib.hid hlow
  have HC := Lib.hid hc
  have HD := Lib.hid hd
  have HA := Lib.hid hall
  obtain ⟨m, hm⟩ : ∃ m, m = a + 1 := ⟨_, rfl⟩
  have b0 : ((m : Int) - (a : Int) == 1) = true := by simp; omega
  rw [← hm]
  have HM := Lib.hid hm
  have hm1 : a + 1 ≤ m := by omega
  have hm2 : m ≤ a + 1 := by omega
  clear hr hlow hc hd hall hm
  go_enter Tryz.func189, Tryz.ntmps189
  go_wp2_with fail
  go_loopw [10, 11] (fun iv jv wr => ∃ i j : Nat, m ≤ i ∧ i ≤ j ∧ j ≤ b ∧ iv = .int .i64 i ∧ jv = .int .i64 j ∧ Hid (LoHi (fun i => k (f i) < k (f a)) m b i j) ∧ Hid (Drawn w wr)) (fun i j _ => (intOf j).toNat - (intOf i).toNat)
  case atStart => exact ⟨m, b, by omega, by omega, by omega, rfl, rfl, ⟨.inl rfl, .inl rfl⟩, Drawn.refl w⟩
  case round =>
    obtain ⟨i, j, hi1, hij, hj1, rfl, rfl, hQ, hD⟩ := hrel
    by_cases hlt : i < j
    · obtain ⟨h, hh⟩ : ∃ h, h = (i + j) / 2 := ⟨_, rfl⟩
      have hh1 : i ≤ h := by omega
      have hh2 : h < j := by omega
      have hE : Hid (((i : Int) + (j : Int)) / 2 = (h : Int)) := by show _ = _; omega
      clear hh
      have c1 := (hD.out.dat HD.out).cell (i := h) (by omega)
      have c2 := (hD.out.dat HD.out).cell (i := a) (by omega)
      have hcm := fun q => HC.out (f h) (f a) (wr.drewN q) (HA.out h (by omega)) (HA.out a (by omega)) ((hD.out.more q).kept)
      have x3 : (0 : Int) ≤ (h : Int) := by omega
      have x4 : (h : Int) < (n : Int) := by omega
      have x5 : (0 : Int) ≤ (a : Int) := by omega
      have x6 : (a : Int) < (n : Int) := by omega
      obtain ⟨cv, hcv⟩ : ∃ cv, cv = cmp3 (k (f h)) (k (f a)) := ⟨_, rfl⟩
      rw [← hcv] at hcm
      have HD2 : ∀ q, Hid (Drawn w (wr.drewN q)) := fun q => hD.out.more q
      by_cases hk : k (f h) < k (f a)
      · have d1 : cv < 0 := by rw [hcv]; exact cmp3_lt hk
        have HX : Hid (LoHi (fun i => k (f i) < k (f a)) m b (h + 1) j) := ⟨.inr hk, hQ.out.2⟩
        clear hcv hk hQ
        generalize f h = v1 at *
        generalize f a = v2 at *
        go_wp2_with fail
        rw [hE.out]
        go_quiet ((go_at_call 170; exact Calls.quiet_of (hcm _)))
        have HD3 := HD2 nq
        clear HD2 hcm c1 c2 hD
        go_wp2_with fail
        go_roundw
        case rel => go_light; exact ⟨h + 1, j, by omega, by omega, by omega, by go_num, rfl, HX, HD3⟩
        case measure => go_light; simp [intOf]; omega
      · have d1 : ¬ cv < 0 := by rw [hcv]; have := cmp3_ge hk; omega
        have HX : Hid (LoHi (fun i => k (f i) < k (f a)) m b i h) := ⟨hQ.out.1, .inr hk⟩
        clear hcv hk hQ
        generalize f h = v1 at *
        generalize f a = v2 at *
        go_wp2_with fail
        rw [hE.out]
        go_quiet ((go_at_call 170; exact Calls.quiet_of (hcm _)))
        have HD3 := HD2 nq
        clear HD2 hcm c1 c2 hD
        go_wp2_with fail
        go_roundw
        case rel => go_light; exact ⟨i, h, by omega, by omega, by omega, rfl, rfl, HX, HD3⟩
        case measure => go_light; simp [intOf]; omega
    · obtain rfl : i = j := by omega
      have p0 : Hid (Put g n (rot f a m (m + 0)) w wr) := by
        show Put _ _ _ _ _
        rw [Nat.add_zero, rot_id f (by omega) (Nat.le_refl _) (.inr rfl)]
        exact hD.out.put HD.out
      have HF : Hid (InsPost k f g n a b w (.returned (.tuple #[])) = InsPost k f g n a b w (.returned (.tuple #[]))) := rfl
      have HMER : Hid (Mer k f (rot f a m i) a b) := by
        have e := HM.out
        subst e
        refine put_first hi1 (by omega) HR.out HL.out ?_ ?_
        · rcases hQ.out.2 with h | h
          · exact .inl h
          · exact .inr (by omega)
        · exact hQ.out.1
      clear hD hQ HF
      obtain ⟨wo, rfl⟩ : ∃ wo : World, wo = wr := ⟨_, rfl⟩
      go_wp2_with fail
      go_loopw [13] (fun kv wr => ∃ t : Nat, m + t ≤ i ∧ kv = .int .i64 ((a + t : Nat) : Int) ∧ Hid (Put g n (rot f a m (m + t)) w wr)) (fun kv _ => i - (intOf kv).toNat)
      case atStart => exact ⟨0, by omega, rfl, p0⟩
      case round =>
        clear p0
        obtain ⟨t, ht, rfl, hp⟩ := hrel
        by_cases hlt : m + t < i
        · obtain ⟨p, hp0⟩ : ∃ p, p = a + t := ⟨_, rfl⟩
          have c1 := hp.out.1.cell (i := p) (by omega)
          have c2 := hp.out.1.cell (i := p + 1) (by omega)
          have f1 := hp.out.1.frozen p
          have f2 := hp.out.1.frozen (p + 1)
          have hsw := (hp.out.swap (p := p) (q := p + 1) (by omega) (by omega) (by omega)).drew
          have e := rot_up f a t
          rw [← HM.out, ← hp0] at e
          rw [e] at hsw
          have HNX := Lib.hid hsw
          rw [← hp0]
          have hp1 : p < i - 1 := by omega
          have hp2 : a + (t + 1) = p + 1 := by omega
          have HP2 := Lib.hid hp2
          clear hsw e hp hp0 hp2
          generalize rot f a m (m + t) p = v1 at *
          generalize rot f a m (m + t) (p + 1) = v2 at *
          have s1 : IntKind.i64.wrap ((p : Int) + 1) = (p : Int) + 1 := IntWalk.i64_in _ (by omega)
          have x1 : (0 : Int) ≤ (p : Int) := by omega
          have x2 : (0 : Int) ≤ (p : Int) + 1 := by omega
          have x3 : (p : Int) < (n : Int) := by omega
          have x4 : (p : Int) + 1 < (n : Int) := by omega
          have x6 : ((p : Int) + 1).toNat = p + 1 := by omega
          have x7 : (p : Int) < (i : Int) - 1 := by omega
          go_wp2_with fail
          go_region
          clear s1 x6
          go_wp2_with fail
          go_roundw
          case rel => go_light; exact ⟨t + 1, by omega, congrArg (Value.int .i64) (by have := HP2.out; omega), HNX⟩
          case measure => go_light; simp [intOf]; omega
        · obtain rfl : m + t = i := by omega
          have x7 : ¬ (a + t < m + t - 1) := by omega
          have x8 : ¬ (((a + t : Nat) : Int) < ((m + t : Nat) : Int) - 1) := by omega
          go_wp2_with fail
          refine bodyPost_ret (v := .tuple #[]) (results_none rfl _ _ _) rfl ⟨rfl, _, hp.out, HMER.out⟩

set_option maxHeartbeats 1000000 in
set_option maxRecDepth 100000 in
theorem sym_right (w : World) (Bo g n c a m N : Nat) (k f : Nat → Nat) (hN : n ≤ 4611686018427387904) (ham : a + 1 < m) (hb : m + 1 ≤ n) (hl : Sor k f a m) (hlow : Low f a m (m + 1)) (hall : All N n f) (hd : Dat w g n f) (hc : CmpOk Bo g N w k) :
    Calls Tryz.prog 189 #[.slice (some ⟨g, 0, none⟩) n c, .int .i64 a, .int .i64 m, .int .i64 ((m + 1 : Nat) : Int), .func (Fn.func 170) #[] #[.pointer (some ⟨Bo, 0, none⟩)]] w (InsPost k f g n a (m + 1) w) := by
  have eK : ∀ args w, (callFunc 170 args).run Tryz.prog w = .ok (.enter 170 args) w := fun args w => by simp [callFunc, go_sem, Tryz.func170]; rfl
  have HL := Lib.hid hl
  have HLW := Lib.hid hlow
  have HC := Lib.hid hc
  have HD := Lib.hid hd
  have HA := Lib.hid hall
  obtain ⟨b, hm⟩ : ∃ b, b = m + 1 := ⟨_, rfl⟩
  have b0 : ((m : Int) - (a : Int) == 1) = false := by simp; omega
  have b1 : ((b : Int) - (m : Int) == 1) = true := by simp; omega
  rw [← hm]
  have HM := Lib.hid hm
  have hm1 : m + 1 ≤ b := by omega
  have hm2 : b ≤ m + 1 := by omega
  clear hl hlow hc hd hall hm
  go_enter Tryz.func189, Tryz.ntmps189
  go_wp2_with fail
  go_loopw [14, 15] (fun iv jv wr => ∃ i j : Nat, a ≤ i ∧ i ≤ j ∧ j ≤ m ∧ iv = .int .i64 i ∧ jv = .int .i64 j ∧ Hid (LoHi (fun i => ¬ k (f m) < k (f i)) a m i j) ∧ Hid (Drawn w wr)) (fun i j _ => (intOf j).toNat - (intOf i).toNat)
  case atStart => exact ⟨a, m, by omega, by omega, by omega, rfl, rfl, ⟨.inl rfl, .inl rfl⟩, Drawn.refl w⟩
  case round =>
    obtain ⟨i, j, hi1, hij, hj1, rfl, rfl, hQ, hD⟩ := hrel
    by_cases hlt : i < j
    · obtain ⟨h, hh⟩ : ∃ h, h = (i + j) / 2 := ⟨_, rfl⟩
      have hh1 : i ≤ h := by omega
      have hh2 : h < j := by omega
      have hE : Hid (((i : Int) + (j : Int)) / 2 = (h : Int)) := by show _ = _; omega
      clear hh
      have c1 := (hD.out.dat HD.out).cell (i := h) (by omega)
      have c2 := (hD.out.dat HD.out).cell (i := m) (by omega)
      have hcm := fun q => HC.out (f m) (f h) (wr.drewN q) (HA.out m (by omega)) (HA.out h (by omega)) ((hD.out.more q).kept)
      have x3 : (0 : Int) ≤ (h : Int) := by omega
      have x4 : (h : Int) < (n : Int) := by omega
      have x5 : (0 : Int) ≤ (m : Int) := by omega
      have x6 : (m : Int) < (n : Int) := by omega
      obtain ⟨cv, hcv⟩ : ∃ cv, cv = cmp3 (k (f m)) (k (f h)) := ⟨_, rfl⟩
      rw [← hcv] at hcm
      have HD2 : ∀ q, Hid (Drawn w (wr.drewN q)) := fun q => hD.out.more q
      by_cases hk : k (f m) < k (f h)
      · have d1 : decide (cv < 0) = true := by rw [hcv]; have := cmp3_lt hk; simpa using this
        have HX : Hid (LoHi (fun i => ¬ k (f m) < k (f i)) a m i h) := ⟨hQ.out.1, .inr (fun hn => hn hk)⟩
        clear hcv hk hQ
        generalize f h = v1 at *
        generalize f m = v2 at *
        go_wp2_with fail
        rw [hE.out]
        go_quiet ((go_at_call 170; exact Calls.quiet_of (hcm _)))
        have HD3 := HD2 nq
        clear HD2 hcm c1 c2 hD
        go_wp2_with fail
        go_roundw
        case rel => go_light; exact ⟨i, h, by omega, by omega, by omega, rfl, rfl, HX, HD3⟩
        case measure => go_light; simp [intOf]; omega
      · have d1 : decide (cv < 0) = false := by rw [hcv]; have := cmp3_ge hk; simp; omega
        have HX : Hid (LoHi (fun i => ¬ k (f m) < k (f i)) a m (h + 1) j) := ⟨.inr hk, hQ.out.2⟩
        clear hcv hk hQ
        generalize f h = v1 at *
        generalize f m = v2 at *
        go_wp2_with fail
        rw [hE.out]
        go_quiet ((go_at_call 170; exact Calls.quiet_of (hcm _)))
        have HD3 := HD2 nq
        clear HD2 hcm c1 c2 hD
        go_wp2_with fail
        go_roundw
        case rel => go_light; exact ⟨h + 1, j, by omega, by omega, by omega, by go_num, rfl, HX, HD3⟩
        case measure => go_light; simp [intOf]; omega
    · obtain rfl : i = j := by omega
      have p0 : Hid (Put g n (rot f m m (m + 1)) w wr) := by
        show Put _ _ _ _ _
        rw [rot_id f (Nat.le_refl _) (by omega) (.inl rfl)]
        exact hD.out.put HD.out
      have HMER : Hid (Mer k f (rot f i m (m + 1)) a (m + 1)) := by
        refine put_last hi1 hj1 HL.out HLW.out ?_ ?_
        · rcases hQ.out.1 with h | h
          · exact .inl h
          · exact .inr (by omega)
        · rcases hQ.out.2 with h | h
          · exact .inl h
          · exact .inr (by omega)
      clear hD hQ
      obtain ⟨wo, rfl⟩ : ∃ wo : World, wo = wr := ⟨_, rfl⟩
      go_wp2_with fail
      go_loopw [17] (fun kv wr => ∃ t : Nat, i ≤ t ∧ t ≤ m ∧ kv = .int .i64 (t : Int) ∧ Hid (Put g n (rot f t m (m + 1)) w wr)) (fun kv _ => (intOf kv).toNat)
      case atStart => exact ⟨m, by omega, by omega, rfl, p0⟩
      case round =>
        clear p0
        obtain ⟨t, ht1, ht2, rfl, hp⟩ := hrel
        by_cases hlt : i < t
        · have c1 := hp.out.1.cell (i := t) (by omega)
          have c2 := hp.out.1.cell (i := t - 1) (by omega)
          have f1 := hp.out.1.frozen t
          have f2 := hp.out.1.frozen (t - 1)
          have hsw := (hp.out.swap (p := t) (q := t - 1) (by omega) (by omega) (by omega)).drew
          have e := rot_down f m (t - 1) (by omega)
          rw [show t - 1 + 1 = t by omega] at e
          rw [e] at hsw
          have HNX := Lib.hid hsw
          clear hsw e hp
          generalize rot f t m (m + 1) t = v1 at *
          generalize rot f t m (m + 1) (t - 1) = v2 at *
          have s1 : IntKind.i64.wrap ((t : Int) - 1) = (t : Int) - 1 := IntWalk.i64_in _ (by omega)
          have x1 : (0 : Int) ≤ (t : Int) := by omega
          have x2 : (0 : Int) ≤ (t : Int) - 1 := by omega
          have x3 : (t : Int) < (n : Int) := by omega
          have x4 : (t : Int) - 1 < (n : Int) := by omega
          have x6 : ((t : Int) - 1).toNat = t - 1 := by omega
          have y1 : (1 : Int) ≤ (t : Int) := by omega
          have y3 : 0 < t := by omega
          have y4 : (0 : Int) < (t : Int) := by omega
          go_wp2_with fail
          go_region
          clear s1 x6
          go_wp2_with fail
          go_roundw
          case rel => go_light; exact ⟨t - 1, by omega, by omega, congrArg (Value.int .i64) (by omega), HNX⟩
          case measure => go_light; simp [intOf]; omega
        · obtain rfl : i = t := by omega
          go_wp2_with fail
          refine bodyPost_ret (v := .tuple #[]) (results_none rfl _ _ _) rfl ⟨rfl, _, hp.out, ?_⟩
          rw [HM.out]
          exact HMER.out
end Go.Proofs.YtidclmmnfienlaaGreatDoor.Srt

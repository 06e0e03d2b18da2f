/-
  The walk of slices' insertion sort of a row of numbers, by package lens' comparison.
-/
import Derived.Test.YtdfpcnldfibceaaSortWalk
namespace Go.Proofs.Ytdfpcnldfibceaa.Srt
open Go.RowKit Go.Proofs.Ytdfpcnldfibceaa.Mem Go.Proofs.Ytdfpcnldfibceaa.Own

def All (N n : Nat) (f : Nat → Nat) : Prop := ∀ i, i < n → f i < N
theorem All.mer {N n a b : Nat} {k f f' : Nat → Nat} (h : All N n f) (hm : Mer k f f' a b) (hb : b ≤ n) : All N n f' := fun i hi => by
  by_cases e : a ≤ i ∧ i < b
  · obtain ⟨i', h1, h2, h3⟩ := hm.mem e.1 e.2
    rw [← h3]; exact h i' (by omega)
  · rw [hm.2.2 i (by omega)]; exact h i hi
theorem All.rot {N n a m b : Nat} {f : Nat → Nat} (h : All N n f) (ham : a ≤ m) (hmb : m ≤ b) (hb : b ≤ n) : All N n (rot f a m b) := fun i hi => by
  unfold Srt.rot
  split
  · exact h _ (by omega)
  · split
    · exact h _ (by omega)
    · exact h i hi

def cmp3 (a b : Nat) : Int := if a < b then -1 else if b < a then 1 else 0
theorem cmp3_lt {a b : Nat} (h : a < b) : cmp3 a b < 0 := by unfold cmp3; rw [if_pos h]; omega
theorem cmp3_ge {a b : Nat} (h : ¬ a < b) : 0 ≤ cmp3 a b := by unfold cmp3; rw [if_neg h]; split <;> omega
/-- What the comparison is to do. -/
def CmpOk (Bo g N : Nat) (w0 : World) (k : Nat → Nat) : Prop := ∀ (x y : Nat) (w : World), x < N → y < N → Kept (fun b => b < w0.heap.size ∧ b ≠ g) w0 w →
  Calls Try.prog 157 #[.int .i64 x, .int .i64 y, .pointer (some ⟨Bo, 0, none⟩)] w fun e w' => e = .returned (.int .i64 (cmp3 (k x) (k y))) ∧ ∃ q, w' = w.drewN q
theorem CmpOk.keep {Bo g N : Nat} {w0 w1 : World} {k : Nat → Nat} (h : CmpOk Bo g N w0 k) (hk : Kept (fun b => b < w0.heap.size ∧ b ≠ g) w0 w1) : CmpOk Bo g N w1 k := by
  intro x y w hx hy hw
  have hz := hk.size
  exact h x y w hx hy (hk.trans ⟨hw.os, hw.tape, hw.output, hw.size, fun b hb => hw.block b ⟨by have := hb.1; omega, hb.2⟩⟩)

def InsPost (k f : Nat → Nat) (g n a b : Nat) (w : World) (e : Ending) (w' : World) : Prop := e = .returned (.tuple #[]) ∧ ∃ f', Put g n f' w w' ∧ Mer k f f' a b
def InsAt (k f : Nat → Nat) (g n a m : Nat) (w : World) (wr : World) : Prop := ∃ f', Put g n f' w wr ∧ Mer k f f' a m
def InnAt (k f1 : Nat → Nat) (g n m j : Nat) (w : World) (wr : World) : Prop := Put g n (rot f1 j m (m + 1)) w wr ∧ (j = m ∨ k (f1 m) < k (f1 j))

set_option maxHeartbeats 1000000 in
set_option maxRecDepth 100000 in
theorem ins_any (w : World) (Bo g n c a b N : Nat) (k f : Nat → Nat) (hN : n ≤ 4611686018427387904) (hab : a ≤ b) (hb : b ≤ n) (h0 : ∀ i j, a ≤ i → i < j → j < b → f i < f j) (hall : All N n f) (hd : Dat w g n f) (hc : CmpOk Bo g N w k) :
    Calls Try.prog 179 #[.slice (some ⟨g, 0, none⟩) n c, .int .i64 a, .int .i64 b, .func (Fn.func 157) #[] #[.pointer (some ⟨Bo, 0, none⟩)]] w (InsPost k f g n a b w) := by
  have H0 := Lib.hid h0
  have HC := Lib.hid hc
  have HD := Lib.hid hd
  have HA := Lib.hid hall
  clear h0 hc hd hall
  have eK : ∀ args w, (callFunc 157 args).run Try.prog w = .ok (.enter 157 args) w := fun args w => by simp [callFunc, go_sem, Try.func157]; rfl
  by_cases hlt : a < b
  · have p0 : Hid (InsAt k f g n a (a + 1) w w) := ⟨f, Put.refl HD.out, Mer.refl (Sor.few (by omega))⟩
    go_enter Try.func179, Try.ntmps179
    go_wp2_with fail
    go_loopw [8] (fun i wr => ∃ m : Nat, a + 1 ≤ m ∧ m ≤ b ∧ i = .int .i64 m ∧ Hid (InsAt k f g n a m w wr)) (fun i _ => b - (intOf i).toNat)
    case atStart => exact ⟨a + 1, by omega, by omega, by go_num, p0⟩
    case round =>
      clear p0
      obtain ⟨m, hm1, hm2, rfl, hI⟩ := hrel
      by_cases hmb : m < b
      · obtain ⟨f1, hp1, hmer⟩ := hI.out
        have q0 : Hid (InnAt k f1 g n m m w wr) := by
          refine ⟨?_, .inl rfl⟩
          rw [rot_id f1 (Nat.le_refl _) (by omega) (.inl rfl)]
          exact hp1
        have HM := Lib.hid hmer
        have HA1 := Lib.hid (HA.out.mer hmer (by omega))
        clear hI hp1 hmer
        obtain ⟨wo, rfl⟩ : ∃ wo : World, wo = wr := ⟨_, rfl⟩
        go_wp2_with fail
        go_loopw [9] (fun jv wr => ∃ j : Nat, a ≤ j ∧ j ≤ m ∧ jv = .int .i64 j ∧ Hid (InnAt k f1 g n m j w wr)) (fun j _ => (intOf j).toNat)
        case atStart => exact ⟨m, by omega, by omega, rfl, q0⟩
        case round =>
          clear q0
          obtain ⟨j, hj1, hj2, rfl, hQ⟩ := hrel
          have c1 := hQ.out.1.1.cell (i := j) (by omega)
          rw [rot_first f1 (Nat.le_refl _) (by omega), show j + (m - j) = m by omega] at c1
          have f1' := hQ.out.1.1.frozen j
          by_cases hja : a < j
          · have c2 := hQ.out.1.1.cell (i := j - 1) (by omega)
            rw [rot_ahead f1 (by omega)] at c2
            have f2 := hQ.out.1.1.frozen (j - 1)
            have hcm := fun q => HC.out (f1 m) (f1 (j - 1)) (wr.drewN q) (HA1.out m (by omega)) (HA1.out (j - 1) (by omega)) (hQ.out.1.2.drewN q)
            have s1 : IntKind.i64.wrap ((j : Int) - 1) = (j : Int) - 1 := IntWalk.i64_in _ (by omega)
            have x3 : (0 : Int) ≤ (j : Int) := by omega
            have x4 : (j : Int) < (n : Int) := by omega
            have x1 : (0 : Int) ≤ (j : Int) - 1 := by omega
            have y1 : (1 : Int) ≤ (j : Int) := by omega
            have y3 : 0 < j := by omega
            have y4 : (0 : Int) < (j : Int) := by omega
            have x2 : (j : Int) - 1 < (n : Int) := by omega
            have x5 : ((j : Int) - 1).toNat = j - 1 := by omega
            obtain ⟨cv, hcv⟩ : ∃ cv, cv = cmp3 (k (f1 m)) (k (f1 (j - 1))) := ⟨_, rfl⟩
            by_cases hk : k (f1 m) < k (f1 (j - 1))
            · have d1 : cv < 0 := by rw [hcv]; exact cmp3_lt hk
              rw [← hcv] at hcm
              have HNX : ∀ q, Hid (InnAt k f1 g n m (j - 1) w (((wr.drewN q).setCell ⟨g, j, none⟩ (.int .i64 (f1 (j - 1) : Nat))).setCell ⟨g, j - 1, none⟩ (.int .i64 (f1 m : Nat)))) := by
                intro q
                have hsw := (hQ.out.1.drewN q).swap (p := j) (q := j - 1) (by omega) (by omega) (by omega)
                have e := rot_down f1 m (j - 1) (by omega)
                rw [show j - 1 + 1 = j by omega] at e
                rw [e, rot_ahead f1 (by omega), rot_first f1 (Nat.le_refl _) (by omega), show j + (m - j) = m by omega] at hsw
                exact ⟨hsw, .inr hk⟩
              clear hcv
              generalize f1 m = v1 at *
              generalize f1 (j - 1) = v2 at *
              go_wp2_with fail
              go_quiet ((go_at_call 157; exact Calls.quiet_of (hcm _)))
              go_wp2_with fail
              go_region
              have HNX2 := HNX (nq + 1)
              clear HNX s1 x5 hcm hk c1 c2 hQ
              go_wp2_with fail
              go_roundw
              case rel => go_light; exact ⟨j - 1, by omega, by omega, congrArg (Value.int .i64) (by omega), HNX2⟩
              case measure => go_light; simp [intOf]; omega
            · have d1 : ¬ cv < 0 := by rw [hcv]; have := cmp3_ge hk; omega
              rw [← hcv] at hcm
              have HX : ∀ q, Hid (InsAt k f g n a (m + 1) w (wr.drewN q)) := fun q =>
                ⟨_, hQ.out.1.drewN q, ins_step H0.out HM.out hmb (by omega) hj1 hj2 (.inr (by omega)) hQ.out.2⟩
              clear hcv hk
              generalize f1 m = v1 at *
              generalize f1 (j - 1) = v2 at *
              go_wp2_with fail
              go_quiet ((go_at_call 157; exact Calls.quiet_of (hcm _)))
              have HX2 := HX nq
              clear HX s1 x5 hcm c1 c2 hQ
              go_wp2_with fail
              go_roundw
              case rel => go_light; exact ⟨m + 1, by omega, by omega, by go_num, HX2⟩
              case measure => go_light; simp [intOf]; omega
          · obtain rfl : j = a := by omega
            have HX : ∀ q, Hid (InsAt k f g n j (m + 1) w (wr.drewN q)) := fun q =>
              ⟨_, hQ.out.1.drewN q, ins_step H0.out HM.out hmb (by omega) hj1 hj2 (.inl rfl) hQ.out.2⟩
            have d0 : decide (j < j) = false := by simp
            have d1 : decide ((j : Int) < (j : Int)) = false := by simp
            generalize f1 m = v1 at *
            go_wp2_with fail
            go_quiet (fail)
            have HX2 := HX nq
            clear HX c1 hQ d0 d1
            go_wp2_with fail
            go_roundw
            case rel => go_light; exact ⟨m + 1, by omega, by omega, by go_num, HX2⟩
            case measure => go_light; simp [intOf]; omega
      · obtain rfl : m = b := by omega
        go_wp2_with fail
        refine bodyPost_end (results_none rfl _ _ _) rfl ⟨rfl, hI.out⟩
  · obtain rfl : a = b := by omega
    go_enter Try.func179, Try.ntmps179
    go_wp2_with fail
    refine wp_loop_rounds 1 ?_
    rw [rounds_succ]
    go_wp2_with fail
    refine bodyPost_end (results_none rfl _ _ _) rfl ⟨rfl, f, Put.refl HD.out, Mer.refl (Sor.few (by omega))⟩
end Go.Proofs.Ytdfpcnldfibceaa.Srt

/-
  The walks of slices' exchanges and rotations of a row of numbers.
-/
import Derived.Test.YtdfpcnldfibceaaSortPlain
import Derived.Test.YtdfpcnldfibceaaKept
import Derived.Test.YtdfpcnldfibceaaProg
import Derived.BigRegion
import Derived.BigQuiet
import Derived.BigGuardPart
import Derived.Deep.QuietTactic
import Derived.Deep.Light
import Derived.Deep.LoopGhost
import Derived.Deep.DeepCutAuto
import Derived.IntWalk
namespace Go.Proofs.Ytdfpcnldfibceaa.Srt
open Go.RowKit Go.Proofs.Ytdfpcnldfibceaa.Mem Go.Proofs.Ytdfpcnldfibceaa.Own

/-- A block whose first n cells are the numbers f. -/
def Dat (w : World) (g n : Nat) (f : Nat → Nat) : Prop := ∃ cs : Array Value, Blk w g 3 cs ∧ n ≤ cs.size ∧ ∀ i, i < n → cs[i]? = some (.int .i64 (f i : Nat))
theorem Dat.cell {w : World} {g n i : Nat} {f : Nat → Nat} (h : Dat w g n f) (hi : i < n) : w.cell? ⟨g, i, none⟩ = some (.int .i64 (f i : Nat)) := by
  obtain ⟨cs, hb, _, hc⟩ := h
  rw [hb.cell]; exact hc i hi
theorem Dat.frozen {w : World} {g n : Nat} {f : Nat → Nat} (h : Dat w g n f) (i : Nat) : w.frozen? ⟨g, i, none⟩ = false := by
  obtain ⟨cs, hb, _, _⟩ := h
  exact hb.frozen i
theorem Dat.lt {w : World} {g n : Nat} {f : Nat → Nat} (h : Dat w g n f) : g < w.heap.size := by
  obtain ⟨cs, hb, _, _⟩ := h
  exact hb.lt
theorem Dat.drew {w : World} {g n : Nat} {f : Nat → Nat} (h : Dat w g n f) : Dat w.drew g n f := h
theorem Dat.drewN {w : World} {g n : Nat} {f : Nat → Nat} (h : Dat w g n f) (k : Nat) : Dat (w.drewN k) g n f := h
theorem Dat.congr {w : World} {g n : Nat} {f f' : Nat → Nat} (h : Dat w g n f) (he : ∀ i, i < n → f' i = f i) : Dat w g n f' := by
  obtain ⟨cs, hb, hs, hc⟩ := h
  exact ⟨cs, hb, hs, fun i hi => by rw [hc i hi, he i hi]⟩
/-- Two cells exchanged. -/
theorem Dat.swap {w : World} {g n p q : Nat} {f : Nat → Nat} (h : Dat w g n f) (hp : p < n) (hq : q < n) (hne : p ≠ q) :
    Dat ((w.setCell ⟨g, p, none⟩ (.int .i64 (f q : Nat))).setCell ⟨g, q, none⟩ (.int .i64 (f p : Nat))) g n (swp f p q) := by
  obtain ⟨cs, hb, hs, hc⟩ := h
  refine ⟨_, (hb.set p _).set q _, by simpa using hs, fun i hi => ?_⟩
  rw [Array.getElem?_setIfInBounds, Array.getElem?_setIfInBounds]
  unfold swp
  by_cases e1 : q = i
  · subst e1
    rw [if_pos rfl, if_pos (by simp; omega), if_neg (Ne.symm hne), if_pos rfl]
  · rw [if_neg e1]
    by_cases e2 : p = i
    · subst e2
      rw [if_pos rfl, if_pos (by omega), if_pos rfl]
    · rw [if_neg e2, if_neg (Ne.symm e2), if_neg (Ne.symm e1), hc i hi]

/-- What a step leaves: the row rewritten, all else as it was. -/
def Put (g n : Nat) (f : Nat → Nat) (w w' : World) : Prop := Dat w' g n f ∧ Kept (fun b => b < w.heap.size ∧ b ≠ g) w w'
theorem Put.trans {g n : Nat} {f f' : Nat → Nat} {w w1 w2 : World} (h1 : Put g n f w w1) (h2 : Put g n f' w1 w2) : Put g n f' w w2 := by
  have hz := h1.2.size
  exact ⟨h2.1, h1.2.trans ⟨h2.2.os, h2.2.tape, h2.2.output, h2.2.size, fun b hb => h2.2.block b ⟨by have := hb.1; omega, hb.2⟩⟩⟩
theorem Put.swap {g n p q : Nat} {f : Nat → Nat} {w w1 : World} (h : Put g n f w w1) (hp : p < n) (hq : q < n) (hne : p ≠ q) :
    Put g n (swp f p q) w ((w1.setCell ⟨g, p, none⟩ (.int .i64 (f q : Nat))).setCell ⟨g, q, none⟩ (.int .i64 (f p : Nat))) :=
  ⟨h.1.swap hp hq hne, (h.2.set (fun hb => hb.2 rfl) _).set (fun hb => hb.2 rfl) _⟩
theorem Put.drew {g n : Nat} {f : Nat → Nat} {w w1 : World} (h : Put g n f w w1) : Put g n f w w1.drew := ⟨h.1.drew, h.2.drew⟩
theorem Put.drewN {g n : Nat} {f : Nat → Nat} {w w1 : World} (h : Put g n f w w1) (k : Nat) : Put g n f w (w1.drewN k) := ⟨h.1.drewN k, h.2.drewN k⟩
theorem Put.refl {g n : Nat} {f : Nat → Nat} {w : World} (h : Dat w g n f) : Put g n f w w := ⟨h, Kept.refl _ _⟩

set_option maxHeartbeats 1000000 in
set_option maxRecDepth 100000 in
theorem swr_any (w : World) (g n c a b m : Nat) (f : Nat → Nat) (u : Value) (hN : n ≤ 9223372036854775807) (hab : a + m ≤ b) (hb : b + m ≤ n) (hd : Dat w g n f) :
    Calls Try.prog 184 #[.slice (some ⟨g, 0, none⟩) n c, .int .i64 a, .int .i64 b, .int .i64 m, u] w fun e w' => e = .returned (.tuple #[]) ∧ Put g n (swr f a b m) w w' := by
  have p0 : Put g n (swr f a b 0) w w := by rw [swr_zero]; exact Put.refl hd
  clear hd
  go_enter Try.func184, Try.ntmps184
  go_wp2_with fail
  go_loopw [10] (fun i wr => ∃ k : Nat, k ≤ m ∧ i = .int .i64 k ∧ Hid (Put g n (swr f a b k) w wr)) (fun i _ => m - (intOf i).toNat)
  case atStart => exact ⟨0, Nat.zero_le _, rfl, p0⟩
  case round =>
    clear p0
    obtain ⟨k, hk, rfl, hp⟩ := hrel
    by_cases hlt : k < m
    · have c1 := hp.out.1.cell (i := a + k) (by omega)
      have c2 := hp.out.1.cell (i := b + k) (by omega)
      have f1 := hp.out.1.frozen (a + k)
      have f2 := hp.out.1.frozen (b + k)
      have hnx := (hp.out.swap (p := a + k) (q := b + k) (by omega) (by omega) (by omega)).drew
      rw [swr_step f a b k (by omega)] at hnx
      have HNX := Lib.hid hnx
      clear hnx
      generalize swr f a b k (a + k) = v1 at *
      generalize swr f a b k (b + k) = v2 at *
      have s1 : IntKind.i64.wrap ((a : Int) + (k : Int)) = (a : Int) + (k : Int) := IntWalk.i64_in _ (by omega)
      have s2 : IntKind.i64.wrap ((b : Int) + (k : Int)) = (b : Int) + (k : Int) := IntWalk.i64_in _ (by omega)
      have x1 : (0 : Int) ≤ (a : Int) + (k : Int) := by omega
      have x2 : (0 : Int) ≤ (b : Int) + (k : Int) := by omega
      have x3 : (a : Int) + (k : Int) < (n : Int) := by omega
      have x4 : (b : Int) + (k : Int) < (n : Int) := by omega
      have x5 : ((a : Int) + (k : Int)).toNat = a + k := by omega
      have x6 : ((b : Int) + (k : Int)).toNat = b + k := by omega
      go_wp2_with fail
      go_region
      clear s1 s2 x5 x6
      go_wp2_with fail
      go_roundw
      case rel => go_light; exact ⟨k + 1, by omega, by go_num, HNX⟩
      case measure => go_light; simp [intOf]; omega
    · obtain rfl : k = m := by omega
      go_wp2_with fail
      refine bodyPost_end (results_none rfl _ _ _) rfl ⟨rfl, hp.out⟩
theorem swr_int (g n c : Nat) (u : Value) (hN : n ≤ 4611686018427387904) : ∀ (wx : World) (x y z : Int) (a b m : Nat) (f : Nat → Nat), x = a → y = b → z = m → a + m ≤ b → b + m ≤ n → Dat wx g n f →
    Calls Try.prog 184 #[.slice (some ⟨g, 0, none⟩) n c, .int .i64 x, .int .i64 y, .int .i64 z, u] wx fun e w' => e = .returned (.tuple #[]) ∧ Put g n (swr f a b m) wx w' := by
  intro wx x y z a b m f h1 h2 h3 h4 h5 h6
  subst h1 h2 h3
  exact swr_any wx g n c a b m f u (by omega) h4 h5 h6
def Rotd (g n : Nat) (w : World) (fin : Nat → Nat) (m i j : Nat) (wr : World) : Prop := ∃ f, Put g n f w wr ∧ rot f (m - i) m (m + j) = fin
theorem Rotd.gt {g n m i j : Nat} {w wr w1 : World} {fin f : Nat → Nat} (h : Put g n f w wr) (hr : rot f (m - i) m (m + j) = fin) (h1 : Put g n (swr f (m - i) m j) wr w1) (hij : j < i) (him : i ≤ m) : Rotd g n w fin m (i - j) j w1 := by
  refine ⟨_, h.trans h1, ?_⟩
  have := rot_gt f (m - i) i j hij
  rw [show m - i + i = m by omega, show m - i + j = m - (i - j) by omega] at this
  rw [← this, hr]
theorem Rotd.lt {g n m i j : Nat} {w wr w1 : World} {fin f : Nat → Nat} (h : Put g n f w wr) (hr : rot f (m - i) m (m + j) = fin) (h1 : Put g n (swr f (m - i) (m + j - i) i) wr w1) (hij : i < j) (him : i ≤ m) : Rotd g n w fin m i (j - i) w1 := by
  refine ⟨_, h.trans h1, ?_⟩
  have := rot_lt f (m - i) i j hij
  rw [show m - i + i = m by omega, show m - i + j = m + j - i by omega, show m + j - i = m + (j - i) by omega] at this
  rw [show m + j - i = m + (j - i) by omega, ← this, hr]
theorem Rotd.eq {g n m i : Nat} {w wr w1 : World} {fin f : Nat → Nat} (h : Put g n f w wr) (hr : rot f (m - i) m (m + i) = fin) (h1 : Put g n (swr f (m - i) m i) wr w1) (him : i ≤ m) : Put g n fin w w1 := by
  have := rot_eq f (m - i) i
  rw [show m - i + i = m by omega] at this
  rw [← hr, this]
  exact h.trans h1

set_option maxHeartbeats 1000000 in
set_option maxRecDepth 100000 in
theorem rot_any (w : World) (g n c a m b : Nat) (f : Nat → Nat) (u : Value) (hN : n ≤ 4611686018427387904) (ham : a < m) (hmb : m < b) (hb : b ≤ n) (hd : Dat w g n f) :
    Calls Try.prog 183 #[.slice (some ⟨g, 0, none⟩) n c, .int .i64 a, .int .i64 m, .int .i64 b, u] w fun e w' => e = .returned (.tuple #[]) ∧ Put g n (rot f a m b) w w' := by
  have p0 : Hid (Rotd g n w (rot f a m b) m (m - a) (b - m) w) := ⟨f, Put.refl hd, by rw [show m - (m - a) = a by omega, show m + (b - m) = b by omega]⟩
  generalize rot f a m b = fin at *
  have C := Lib.hid (swr_int g n c u hN)
  clear hd
  go_enter Try.func183, Try.ntmps183
  go_wp2_with fail
  go_loopw [10, 11] (fun iv jv wr => ∃ i j : Nat, 0 < i ∧ 0 < j ∧ i ≤ m ∧ m + j ≤ n ∧ iv = .int .i64 i ∧ jv = .int .i64 j ∧ Hid (Rotd g n w fin m i j wr)) (fun i j _ => (intOf i).toNat + (intOf j).toNat)
  case atStart => exact ⟨m - a, b - m, by omega, by omega, by omega, by omega, congrArg (Value.int .i64) (by omega), congrArg (Value.int .i64) (by omega), p0⟩
  case round =>
    clear p0
    obtain ⟨i, j, hi, hj, him, hjn, rfl, rfl, hp⟩ := hrel
    obtain ⟨f', hp1, hr1⟩ := hp.out
    have HR := Lib.hid hr1
    have HP := Lib.hid hp1
    clear hr1 hp hp1
    by_cases hgt : j < i
    · have b1 : ((i : Int) != (j : Int)) = true := by simp; omega
      go_wp2_with fail
      refine (C.out _ _ _ _ (m - i) m j f' (by omega) rfl rfl (by omega) (by omega) HP.out.1).mono ?_
      rintro e w1 ⟨rfl, hp2⟩
      have HN2 := Lib.hid (Rotd.gt HP.out HR.out hp2 hgt him)
      clear hp2 b1
      go_wp2_with fail
      go_roundw
      case rel => go_light; exact ⟨i - j, j, by omega, hj, by omega, hjn, congrArg (Value.int .i64) (by omega), rfl, HN2⟩
      case measure => go_light; simp [intOf]; omega
    · by_cases hlt : i < j
      · have b1 : ((i : Int) != (j : Int)) = true := by simp; omega
        go_wp2_with fail
        refine (C.out _ _ _ _ (m - i) (m + j - i) i f' (by omega) (by omega) rfl (by omega) (by omega) HP.out.1).mono ?_
        rintro e w1 ⟨rfl, hp2⟩
        have HN2 := Lib.hid (Rotd.lt HP.out HR.out hp2 hlt him)
        clear hp2 b1
        go_wp2_with fail
        go_roundw
        case rel => go_light; exact ⟨i, j - i, by omega, by omega, by omega, by omega, rfl, congrArg (Value.int .i64) (by omega), HN2⟩
        case measure => go_light; simp [intOf]; omega
      · obtain rfl : i = j := by omega
        go_wp2_with fail
        refine (C.out _ _ _ _ (m - i) m i f' (by omega) rfl rfl (by omega) (by omega) HP.out.1).mono ?_
        rintro e w1 ⟨rfl, hp2⟩
        have HN2 := Lib.hid (Rotd.eq HP.out HR.out hp2 him)
        clear hp2
        go_wp2_with fail
        refine bodyPost_end (results_none rfl _ _ _) rfl ⟨rfl, HN2.out⟩
end Go.Proofs.Ytdfpcnldfibceaa.Srt

/-
  The walk of sift.small: small letters in the place of large ones.
-/
import Derived.Test.YtloakdiioaodaaaSiftLetter
import Derived.Laws.IdiomStrings
import Derived.Lib.SlBytesRow
namespace Go.Proofs.Ytloakdiioaodaaa.Sift
open Go.RowKit Go.Proofs.Ytloakdiioaodaaa.Mem

def lowN (n : Nat) : Nat := if 65 ≤ n ∧ n ≤ 90 then n + 32 else n
def lowB (c : UInt8) : UInt8 := if 65 ≤ c.toNat ∧ c.toNat ≤ 90 then c + 32 else c
theorem lowB_nat (c : UInt8) : (lowB c).toNat = lowN c.toNat := by
  unfold lowB lowN
  split
  · rw [UInt8.toNat_add]
    show (c.toNat + 32) % 256 = _
    omega
  · rfl
def bs (l : List UInt8) : ByteArray := ⟨l.toArray⟩
theorem bs_list (l : List UInt8) : (bs l).data.toList = l := rfl
theorem bs_size (l : List UInt8) : (bs l).size = l.length := by simp [bs, ByteArray.size]
theorem bs_at (l : List UInt8) (i : Nat) (h : i < (bs l).size) : (bs l)[i] = l[i]'(by rw [bs_size] at h; exact h) := by
  have h1 := byte_at' (bs l) i h (by rw [bs_list]; rw [bs_size] at h; exact h)
  exact h1.symm
def LowAt (w : World) (g : Nat) (s : ByteArray) (k : Nat) : Prop :=
  (∀ i (h : i < s.size), w.cell? ⟨g, i, none⟩ = some (.int .u8 ((if i < k then lowN s[i].toNat else s[i].toNat : Nat) : Int))) ∧ ∀ i, i < s.size → w.frozen? ⟨g, i, none⟩ = false
theorem LowAt.put {w : World} {g k : Nat} {s : ByteArray} {v : Int} (h : LowAt w g s k) (hk : k < s.size) (hv : v = ((lowN s[k].toNat : Nat) : Int)) : LowAt (w.setCell ⟨g, k, none⟩ (.int .u8 v)) g s (k + 1) := by
  refine ⟨fun i hi => ?_, fun i hi => by rw [World.frozen?_setCell]; exact h.2 i hi⟩
  by_cases e : i = k
  · subst e
    rw [World.cell?_setCell_same _ _ _ (h.1 i hi), if_pos (by omega), hv]
  · rw [World.cell?_setCell_other _ _ _ _ (by intro e2; injection e2 with _ e3; exact e e3.symm), h.1 i hi]
    by_cases h2 : i < k
    · rw [if_pos h2, if_pos (by omega)]
    · rw [if_neg h2, if_neg (by omega)]
theorem LowAt.skip {w : World} {g k : Nat} {s : ByteArray} (h : LowAt w g s k) (hk : k < s.size) (hv : lowN s[k].toNat = s[k].toNat) : LowAt w g s (k + 1) := by
  refine ⟨fun i hi => ?_, h.2⟩
  rw [h.1 i hi]
  by_cases e : i = k
  · subst e
    rw [if_neg (by omega), if_pos (by omega), hv]
  · by_cases h2 : i < k
    · rw [if_pos h2, if_pos (by omega)]
    · rw [if_neg h2, if_neg (by omega)]

set_option maxRecDepth 100000 in
theorem ssmall_any (w : World) (s : ByteArray) (hs : s.size ≤ 100000) : Calls Try.prog 49 #[.string s] w fun e w' => e = .returned (.string (bs (s.data.toList.map lowB))) ∧ Below w.heap.size w w' := by
  have kc := fun wx => run_bytes_of_string (P := Try.prog) wx 9 30 5 s Try.underlying9 Try.underlying30 Try.underlying5
  have hsz : (bs (s.data.toList.map lowB)).size = s.size := by rw [bs_size, List.length_map, ← Lib.size_eq]
  go_enter Try.func49, Try.ntmps49
  go_wp2_with fail
  go_loopw [10] (fun i wr => ∃ k : Nat, k ≤ s.size ∧ i = .int .i64 k ∧ Hid (LowAt wr w.heap.size s k) ∧ Below w.heap.size w wr) (fun i _ => s.size - (intOf i).toNat)
  case atStart =>
    refine ⟨0, by omega, rfl, ?_, ?_⟩
    · show LowAt _ _ _ _
      refine ⟨fun i hi => ?_, fun i hi => ?_⟩
      · rw [if_neg (by omega)]
        show (World.alloc w _).cell? _ = _
        rw [World.cell?_alloc_mark, bytesRow_at s _ i hi]
        rfl
      · show (World.alloc w _).frozen? _ = _
        rw [World.frozen?_alloc_mark]
        have : s.size ≤ (bytesRow s (grownCap w s.size 0 5)).size := by
          unfold bytesRow
          rw [Array.size_append, Array.size_map]
          exact Nat.le_add_right _ _
        rw [decide_eq_false (by omega)]
        rfl
    · (repeat (first | (with_reducible exact Below.refl _ _) | (with_reducible assumption) | (with_reducible refine Below.drew ?_) | (with_reducible refine below_drewN ?_ _) | ((with_reducible refine bel_set ?_ ?_); (focus (first | (simp; done) | (simp; omega) | omega | (simp at *; omega)))) | (with_reducible refine bel_alloc0 ?_) | (with_reducible refine bel_step0 (by assumption) ?_) | ((with_reducible refine bel_alloc ?_ ?_); (focus (first | (simp; done) | (simp; omega) | omega | (simp at *; omega)))) | ((with_reducible refine bel_step (by assumption) ?_ ?_); (focus (first | (simp; done) | (simp; omega) | omega | (simp at *; omega))))))
  case round =>
    obtain ⟨k, hk, rfl, hL, hb⟩ := hrel
    by_cases hlt : k < s.size
    · have c0 := hL.out.1 k hlt
      have f0 := hL.out.2 k hlt
      rw [if_neg (by omega)] at c0
      have hu := UInt8.toNat_lt s[k]
      have hput := fun v => hL.out.put (v := v) hlt
      have hskip := hL.out.skip hlt
      unfold lowN at hput hskip
      generalize s[k].toNat = u at *
      have x0 : (0 : Int) ≤ (k : Int) := by omega
      have x1 : (k : Int) < (s.size : Int) := by omega
      have HB := Lib.hid hb
      have HPUT := Lib.hid hput
      have HSKIP := Lib.hid hskip
      clear hput hskip hb hL
      have HU := Lib.hid hu
      by_cases h1 : 65 ≤ u ∧ u ≤ 90
      · have g0 : decide ((65 : Int) ≤ (u : Int)) = true := decide_eq_true (by omega)
        have g1 : decide ((u : Int) ≤ 90) = true := decide_eq_true (by omega)
        go_wp2_with fail
        go_roundw
        case measure => go_light; simp [intOf]; omega
        case rel =>
          go_light
          refine ⟨k + 1, by omega, by go_num, HPUT.out _ (by rw [if_pos h1]; omega), bel_set (Nat.le_refl _) HB.out⟩
      · have hl : Hid (LowAt wr w.heap.size s (k + 1)) := HSKIP.out (if_neg h1)
        by_cases h2 : 65 ≤ u
        · have g0 : decide ((65 : Int) ≤ (u : Int)) = true := decide_eq_true (by omega)
          have g1 : decide ((u : Int) ≤ 90) = false := decide_eq_false (by omega)
          go_wp2_with fail
          go_roundw
          case measure => go_light; simp [intOf]; omega
          case rel => go_light; exact ⟨k + 1, by omega, by go_num, hl.out, HB.out⟩
        · have g0 : decide ((65 : Int) ≤ (u : Int)) = false := decide_eq_false (by omega)
          go_wp2_with fail
          go_roundw
          case measure => go_light; simp [intOf]; omega
          case rel => go_light; exact ⟨k + 1, by omega, by go_num, hl.out, HB.out⟩
    · obtain rfl : k = s.size := by omega
      have hby : Lib.Bytes wr w.heap.size 0 (bs (s.data.toList.map lowB)) := by
        intro i hi
        rw [hsz] at hi
        rw [Nat.zero_add, hL.out.1 i hi, if_pos hi]
        have h1 := bs_at (s.data.toList.map lowB) i (by rw [hsz]; exact hi)
        rw [h1, List.getElem_map, lowB_nat, byte_at' s i hi]
      have kd := fun cap => Lib.run_convert_whole (P := Try.prog) wr 30 5 9 Try.underlying30 Try.underlying5 Try.underlying9 w.heap.size 0 (bs (s.data.toList.map lowB)) hby cap
      rw [hsz] at kd
      have HB := Lib.hid hb
      clear hb hL hby hsz kc
      go_wp2_with fail
      go_ret
      exact ⟨rfl, HB.out⟩
end Go.Proofs.Ytloakdiioaodaaa.Sift

/-
  The walks of the reference's Same, Weight and Great of logs.
-/
import Derived.Test.YtmgjgkdbagbleaaGreatDoorZOneTurned1
import Derived.Test.YtmgjgkdbagbleaaGreatDoorProg
import Derived.BigQuiet
import Derived.BigGuardPart
import Derived.Deep.QuietTactic
import Derived.Deep.Light
namespace Go.Proofs.YtmgjgkdbagbleaaGreatDoor.Recs
open Go.RowKit Go.Proofs.YtmgjgkdbagbleaaGreatDoor.Mem
theorem Row.rec {w : World} {B n : Nat} {A : Option Addr} {l : List Rec} (h : Row w B A n 4 (recF l)) (hn : l.length = n) {k : Nat} (hk : k < n) :
    ∃ b off r, A = some ⟨b, off, none⟩ ∧ b < B ∧ l[k]? = some r ∧ w.cell? ⟨b, off + k * 4, none⟩ = some (.int .u64 r.time) ∧ w.cell? ⟨b, off + k * 4 + 1, none⟩ = some (.int .u8 r.level) ∧
      w.cell? ⟨b, off + k * 4 + 2, none⟩ = some (.string r.source) ∧ w.cell? ⟨b, off + k * 4 + 3, none⟩ = some (.string r.text) := by
  obtain ⟨b, off, rfl, hb, hc⟩ := h (by omega)
  have hl : k < l.length := by omega
  refine ⟨b, off, l[k], rfl, hb, List.getElem?_eq_getElem hl, ?_⟩
  have c0 := hc k 0 hk (by omega)
  have c1 := hc k 1 hk (by omega)
  have c2 := hc k 2 hk (by omega)
  have c3 := hc k 3 hk (by omega)
  simp only [recF, List.getD_eq_getElem?_getD, List.getElem?_eq_getElem hl, Option.getD_some, Nat.add_zero, ← Nat.add_assoc] at c0 c1 c2 c3
  exact ⟨c0, c1, c2, c3⟩
def Weighs (l : List Rec) (w : World) (e : Ending) (w' : World) : Prop :=
  ∃ x : Int, e = .returned (.int .i64 x) ∧ 0 ≤ x ∧ x ≤ 4398046511104 ∧ (x ≤ 1099511627776 → x = weight l) ∧ Below w.heap.size w w'
set_option maxHeartbeats 400000 in
theorem ref_weight (w : World) (A : Option Addr) (n c : Nat) (la : List Rec) (hn : la.length = n) (hN : n ≤ 9223372036854775807) (ha : Row w w.heap.size A n 4 (recF la)) :
    Calls Tryz.prog 74 #[.slice A n c] w (Weighs la w) := by
  have HN := Lib.hid hn
  clear hn
  go_enter Tryz.func74, Tryz.ntmps74
  go_wp2
  go_loopw [3, 4] (fun s i wr => ∃ (k : Nat) (x : Int), k ≤ n ∧ i = .int .i64 k ∧ s = .int .i64 x ∧ 0 ≤ x ∧ x ≤ 4398046511104 ∧ Hid (x = weight (la.take k)) ∧ Below w.heap.size w wr) (fun _ i _ => n - (intOf i).toNat)
  case atStart => exact ⟨0, 0, by omega, rfl, rfl, by omega, by omega, rfl, Below.refl _ _⟩
  case round =>
    obtain ⟨k, x, hk, rfl, rfl, hx0, hx1, hx, rbel⟩ := hrel
    by_cases hlt : k < n
    · obtain ⟨b, off, r, rfl, hbb, hr, c0, c1, c2, c3⟩ := Row.rec (ha.below rbel) HN.out hlt
      have HR := Lib.hid hr
      clear hr
      have i1 : (0 : Int) ≤ (k : Int) := by omega
      have i2 : (k : Int) < (n : Int) := by omega
      by_cases hbig : 1099511627776 < x ∨ 1099511627776 < (r.source.size : Int) ∨ 1099511627776 < (r.text.size : Int)
      · go_wp2_with fail
        all_goals
          go_ret
          go_light
          exact ⟨2199023255552, rfl, by omega, by omega, fun h => by omega, rbel⟩
      · have h1 : x ≤ 1099511627776 := by omega
        have h2 : (r.source.size : Int) ≤ 1099511627776 := by omega
        have h3 : (r.text.size : Int) ≤ 1099511627776 := by omega
        clear hbig
        go_wp2_with fail
        go_quiet (fail)
        go_wp2_with fail
        go_roundw
        case rel =>
          go_light
          refine ⟨k + 1, x + 16 + r.source.size + r.text.size, by omega, by go_num, rfl, by omega, by omega, ?_, below_drewN rbel _⟩
          show x + 16 + r.source.size + r.text.size = weight (la.take (k + 1))
          rw [List.take_add_one, HR.out]
          simp only [Option.toList_some, weight_snoc, ← hx.out, weigh]
          omega
        case measure => go_light; simp [intOf]; omega
    · obtain rfl : k = n := by omega
      go_wp2_with fail
      go_ret
      go_light
      refine ⟨x, rfl, hx0, hx1, fun _ => ?_, rbel⟩
      have h := hx.out
      rwa [List.take_of_length_le (by have := HN.out; omega)] at h
def GreatPost (n : Nat) (l : List Rec) (r b : Int) (w : World) (e : Ending) (w' : World) : Prop :=
  ∃ g : Bool, e = .returned (.bool g) ∧ (g = false → (n : Int) ≤ r ∧ weight l ≤ b) ∧ Below w.heap.size w w'
theorem ref_great (w : World) (A : Option Addr) (n c : Nat) (la : List Rec) (r b : Int) (hb : b ≤ 1099511627776) (hn : la.length = n) (hN : n ≤ 9223372036854775807) (ha : Row w w.heap.size A n 4 (recF la)) :
    Calls Tryz.prog 22 #[.slice A n c, .int .i64 r, .int .i64 b] w (GreatPost n la r b w) := by
  have HW := Lib.hid (ref_weight w A n c la hn hN ha)
  clear hn
  by_cases h : r < (n : Int)
  · go_enter Tryz.func22, Tryz.ntmps22
    go_wp2_with fail
    go_ret
    exact ⟨true, rfl, (fun h => by cases h), Below.refl _ _⟩
  · go_enter Tryz.func22, Tryz.ntmps22
    go_wp2_with fail
    refine HW.out.mono ?_
    rintro e w1 ⟨x, rfl, hx0, hx1, hx, hb1⟩
    have HX := Lib.hid hx
    clear hx
    go_wp2_with fail
    go_ret
    refine ⟨decide (b < x), rfl, fun hd => ⟨by omega, ?_⟩, hb1⟩
    have hd := of_decide_eq_false hd
    have := HX.out (by omega)
    omega
end Go.Proofs.YtmgjgkdbagbleaaGreatDoor.Recs

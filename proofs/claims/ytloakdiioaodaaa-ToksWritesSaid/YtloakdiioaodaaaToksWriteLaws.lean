/-
  The walk of the statement ToksWrites.
-/
import Derived.Test.YtloakdiioaodaaaToksWriteW
import Derived.Test.YtloakdiioaodaaaRefToksWrite
import Derived.Test.YtloakdiioaodaaaRefSame
import Derived.Test.YtloakdiioaodaaaToksAlive
namespace Go.Proofs.Ytloakdiioaodaaa.Huff
open Go.RowKit Go.Proofs.Ytloakdiioaodaaa.Mem Go.Proofs.Ytloakdiioaodaaa.Canon Go.Proofs.Ytloakdiioaodaaa.Own
open Go.Proofs.Ytloakdiioaodaaa.Toks (Tk alive11)

theorem own_bytes4 {w : World} {base c n : Nat} {A : Option Addr} {ls : List Nat} (ho : w.ownsRow base 5 1 (.slice A n c) ls.length (numL .u8 ls)) : ls.length = n ∧ Row w w.heap.size A n 1 (numF .u8 ls) ∧ (A = none → n = 0) := by
  have hn : ls.length = n := by
    rcases ho.2 with ⟨hv, hx⟩ | ⟨g, cap, cur, hv, _⟩
    · injection hv with _ e _
      exact hx.trans e.symm
    · injection hv with _ e _
      exact e.symm
  rw [hn] at ho
  exact ⟨hn, Row.of_own ho rfl (fun i j hi hj => by have e0 : j = 0 := (by omega); subst e0; exact numL_get (by omega)), fun h => ((own_wf ho).1 h).1⟩
theorem writeO_le (ts : List Tk) : ∀ x ∈ TW.writeO ts, x ≤ 255 := by
  intro x hx
  unfold TW.writeO at hx
  split at hx
  · unfold bytesOf at hx
    obtain ⟨k, _, rfl⟩ := List.mem_map.1 hx
    exact byteAt_le _ _
  · cases hx
theorem law_writes_long (w : World) (A : Option Addr) (n c : Nat) (_hn : n ≤ 9223372036854775807) (h3 : (500 : Int) < (n : Int)) :
    Calls Try.prog 5 #[.slice A n c] w fun e w' => e = .returned (.bool true) ∧ Below w.heap.size w w' := by
  go_enter Try.func5, Try.ntmps5
  go_wp2_with fail
  refine (alive11 _).mono ?_
  rintro e w1 ⟨rfl, hb1⟩
  go_wp2_with fail
  go_ret
  exact ⟨rfl, hb1⟩
set_option maxHeartbeats 1000000 in
set_option maxRecDepth 100000 in
theorem law_writes (w : World) (A : Option Addr) (n c : Nat) (ts : List Tk) (hn : ts.length = n) (hN : n ≤ 500) (hlit : ∀ t ∈ ts, 0 ≤ t.lit ∧ t.lit ≤ 255) (ha : Row w w.heap.size A n 3 (Toks.tokF ts)) :
    Calls Try.prog 5 #[.slice A n c] w fun e w' => e = .returned (.bool true) ∧ Below w.heap.size w w' := by
  have C1 := Lib.hid (fun wx (h : Below w.heap.size w wx) => twrite_all wx A n c ts hn (by omega) hlit ((ha.below h).mono h.size))
  have C2 := Lib.hid (fun wx (h : Below w.heap.size w wx) => rtwrite_all wx A n c ts hn (by omega) hlit ((ha.below h).mono h.size))
  have HLE := Lib.hid (writeO_le ts)
  clear hn hlit ha
  go_enter Try.func5, Try.ntmps5
  go_wp2_with fail
  refine (alive11 _).mono ?_
  rintro e w1 ⟨rfl, hb1⟩
  go_wp2_with fail
  refine (C1.out _ hb1).mono ?_
  rintro e w2 ⟨v2, rfl, hv2, hb2⟩
  have z1 := hb1.size
  have hbel2 : Below w.heap.size w w2 := bel_step hb2 z1 hb1
  have z2 := hb2.size
  obtain ⟨A2, c2, rfl⟩ := own_shape hv2
  go_wp2_with fail
  refine (C2.out _ hbel2).mono ?_
  rintro e w3 ⟨v3, rfl, hv3, hb3⟩
  have hbel3 : Below w.heap.size w w3 := bel_step hb3 (by omega) hbel2
  obtain ⟨A3, c3, rfl⟩ := own_shape hv3
  have q2 := own_bytes4 hv2
  have q3 := own_bytes4 hv3
  have C3 := same_any w3 A2 A3 _ _ c2 c3 (TW.writeO ts) (TW.writeO ts) q2.1 q3.1 q2.2.2 q3.2.2 HLE.out HLE.out ((q2.2.1.below hb3).mono hb3.size) q3.2.1
  rw [decide_eq_true rfl] at C3
  have C3 := Lib.hid C3
  clear q2 q3 hv2 hv3
  go_wp2_with fail
  refine C3.out.mono ?_
  rintro e w4 ⟨rfl, rfl⟩
  go_wp2_with fail
  go_ret
  exact ⟨rfl, hbel3⟩
end Go.Proofs.Ytloakdiioaodaaa.Huff

/-
  How an argument that is a slice reads: its elements' cells, as a row. How an argument that is a slice of bytes, or of integers, reads.
-/
import Derived.Test.YtmgjgkdbagbleaaGreatDoorZOneUnpacks1
import Derived.Test.YtmgjgkdbagbleaaGreatDoorZOneUnpacks5
import Derived.OpenShut
import Derived.Lib.SmallJoins
import Derived.Deep.Slices
import Derived.Deep.Fields
import Derived.ChangeSame
namespace Go.Proofs.YtmgjgkdbagbleaaGreatDoor.Open
open Go.ChangeShapes Go.WideShapes Go.RowKit Go.Deep Go.Proofs.YtmgjgkdbagbleaaGreatDoor.Mem
def cellInt (w : World) (A : Option Addr) (k : Nat) : Int :=
  match A with
  | some a => (match w.cell? ⟨a.block, a.off + k, none⟩ with | some (.int _ n) => n | _ => 0)
  | none => 0
theorem cellInt_of {w : World} {b off k : Nat} {kd : IntKind} {n : Int} (h : w.cell? ⟨b, off + k, none⟩ = some (.int kd n)) : cellInt w (some ⟨b, off, none⟩) k = n := by
  simp [cellInt, h]
section
variable {H : Type} {enc : TypeId × Value → H} {P : Program} {w : World} {base : Nat} {spare : Nat → Bool} {held : Bool}
theorem add_none (b off i : Nat) : (⟨b, off, none⟩ : Addr).add i = ⟨b, off + i, none⟩ := by
  unfold Addr.add
  split
  · simp_all
  · rfl
theorem singles {t e : TypeId} {fuel : Nat} {A : Option Addr} {len cap : Nat} {x : DataW H × List MemPlace} (ht : P.underlying t = some (.slice e)) (hC : P.cellsOf e = 1)
    (h : DataW.trod enc P w base spare held fuel t [.slice A len cap] = some x) :
    len ≤ cap ∧ cap ≤ maxLen ∧
    (0 < len → ∃ b off, A = some ⟨b, off, none⟩ ∧ b < w.heap.size ∧ ∀ i, i < len →
      ∃ (v : Value) (y : DataW H × List MemPlace) (n : Nat), w.cell? ⟨b, off + i, none⟩ = some v ∧ DataW.trod enc P w base spare held n e [v] = some y) := by
  rcases open_slice ht h with ⟨h0, _⟩ | ⟨a, len', cap', m, n, D, Pl, hcs, hb, hl, hm, hmm, hx, hi⟩
  · simp at h0
    obtain ⟨rfl, rfl, rfl⟩ := h0
    exact ⟨Nat.le_refl _, Nat.zero_le _, fun h => absurd h (by omega)⟩
  · simp at hcs
    obtain ⟨rfl, rfl, rfl⟩ := hcs
    refine ⟨hl, hm, fun hn => ?_⟩
    have hmlen : len ≤ m := by rw [hmm]; split <;> omega
    have cellAt : ∀ i, i < len → ∃ (v : Value) (y : DataW H × List MemPlace) (n : Nat), w.cell? (a.add i) = some v ∧ DataW.trod enc P w base spare held n e [v] = some y := by
      intro i him
      obtain ⟨cs', hc, ht'⟩ := hi i (by omega)
      rw [hC] at hc
      obtain ⟨_, hcl, hat⟩ := World.cells?_some hc
      match cs', hcl with
      | [v], _ =>
        have := hat 0 (by omega)
        rw [add_add] at this
        exact ⟨v, _, n, by simpa using this, ht'⟩
    obtain ⟨b, off, spot⟩ := a
    obtain ⟨v0, _, _, hv0, _⟩ := cellAt 0 hn
    have hspot : spot = none := by
      have := World.cell?_spot hv0
      simpa [Addr.add] using this
    subst hspot
    refine ⟨b, off, rfl, ?_, ?_⟩
    · have := World.block_lt_of_cell? _ _ hv0
      rw [add_none] at this
      exact this
    · intro i him
      obtain ⟨v, y, n, h1, h2⟩ := cellAt i him
      rw [add_none] at h1
      exact ⟨v, y, n, h1, h2⟩
end
end Go.Proofs.YtmgjgkdbagbleaaGreatDoor.Open
namespace Go.Proofs.YtmgjgkdbagbleaaGreatDoor.Open
open Go.ChangeShapes Go.WideShapes Go.RowKit Go.Deep Go.Proofs.YtmgjgkdbagbleaaGreatDoor.Mem Go.Proofs.YtmgjgkdbagbleaaGreatDoor.Canon
theorem wf_of {H : Type} {enc : TypeId × Value → H} {P : Program} {w : World} {base : Nat} {spare : Nat → Bool} {held : Bool} {fuel : Nat} {t e : TypeId} {A : Option Addr} {len cap : Nat} {x : DataW H × List MemPlace} (ht : P.underlying t = some (.slice e))
    (h : DataW.trod enc P w base spare held fuel t [.slice A len cap] = some x) : Wf A len cap := by
  rcases open_slice ht h with ⟨h0, _⟩ | ⟨a, len', cap', m, n, D, Pl, hcs, hb, hl, hm, hmm, hx, hi⟩
  · simp at h0
    obtain ⟨rfl, rfl, rfl⟩ := h0
    exact Wf.nil
  · simp at hcs
    obtain ⟨rfl, rfl, rfl⟩ := hcs
    exact Wf.some hl
theorem bytes8 {H : Type} {enc : TypeId × Value → H} {w : World} {base : Nat} {spare : Nat → Bool} {held : Bool} {fuel : Nat} {A : Option Addr} {len cap : Nat} {x : DataW H × List MemPlace}
    (h : DataW.trod enc Tryz.prog w base spare held fuel 22 [.slice A len cap] = some x) :
    ∃ ls : List Nat, ls.length = len ∧ (∀ x ∈ ls, x ≤ 255) ∧ Row w w.heap.size A len 1 (numF .u8 ls) ∧ len ≤ 9223372036854775807 ∧ Wf A len cap := by
  have hwf := wf_of Tryz.underlying22 h
  obtain ⟨h1, h2, h3⟩ := singles Tryz.underlying22 (by kernel_rfl) h
  have hcell : ∀ i, i < len → ∃ b off v, A = some ⟨b, off, none⟩ ∧ b < w.heap.size ∧ w.cell? ⟨b, off + i, none⟩ = some (.int .u8 (v : Nat)) ∧ v ≤ 255 ∧ cellInt w A i = (v : Nat) := by
    intro i hi
    obtain ⟨b, off, rfl, hb, hc⟩ := h3 (by omega)
    obtain ⟨v0, y0, n0, c0, t0⟩ := hc i hi
    obtain ⟨x0, e0, _, w0⟩ := DataW.trod_int Tryz.underlying5 t0
    simp only [List.cons.injEq, and_true] at e0
    subst e0
    have hbd := bounds_u8 w0
    obtain ⟨m, rfl⟩ := Int.eq_ofNat_of_zero_le hbd.1
    exact ⟨b, off, m, rfl, hb, c0, by omega, cellInt_of c0⟩
  refine ⟨(List.range len).map fun i => (cellInt w A i).toNat, by simp, ?_, ?_, by unfold maxLen at h2; omega, hwf⟩
  · intro t ht
    obtain ⟨i, hi, rfl⟩ := List.mem_map.1 ht
    obtain ⟨b, off, v, _, _, _, hv, e⟩ := hcell i (List.mem_range.1 hi)
    rw [e]; omega
  · intro hn
    obtain ⟨b, off, v, rfl, hb, _⟩ := hcell 0 hn
    refine ⟨b, off, rfl, hb, fun i j hi hj => ?_⟩
    obtain rfl : j = 0 := by omega
    obtain ⟨b', off', v', e1, _, hc, _, e2⟩ := hcell i hi
    injection e1 with e1
    injection e1 with e1 e3
    subst e1 e3
    have e : numF .u8 ((List.range len).map fun i => (cellInt w (some ⟨b, off, none⟩) i).toNat) i 0 = .int .u8 (v' : Nat) := by
      unfold numF
      rw [List.getD_eq_getElem?_getD, List.getElem?_map, List.getElem?_range hi]
      simp [e2]
    rw [e, Nat.mul_one, Nat.add_zero]
    exact hc
end Go.Proofs.YtmgjgkdbagbleaaGreatDoor.Open

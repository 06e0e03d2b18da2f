/-
  How an argument that is a slice reads: its elements' cells, as a row. How an argument that is a slice of bytes, or of integers, reads.
-/
import Derived.Test.YtmgjgkdbagbleaaGreatDoorZOneTurned1
import Derived.Test.YtmgjgkdbagbleaaGreatDoorZOneTurned5
import Derived.OpenShut
import Derived.Lib.SmallJoins
import Derived.Deep.Slices
import Derived.Deep.Fields
import Derived.ChangeSame
namespace Go.Proofs.YtmgjgkdbagbleaaGreatDoor.Open
open Go.ChangeShapes Go.WideShapes Go.RowKit Go.Deep Go.Proofs.YtmgjgkdbagbleaaGreatDoor.Mem
def cellInt (w : World) (A : Option Addr) (k : Nat) : Int :=
  match A with
  | some a => (match w.cell? ⟨a.block, a.off + k, none⟩ with | some (.int _ n) => n | _ => 0)
  | none => 0
def cellStr (w : World) (A : Option Addr) (k : Nat) : ByteArray :=
  match A with
  | some a => (match w.cell? ⟨a.block, a.off + k, none⟩ with | some (.string s) => s | _ => ByteArray.empty)
  | none => ByteArray.empty
theorem cellInt_of {w : World} {b off k : Nat} {kd : IntKind} {n : Int} (h : w.cell? ⟨b, off + k, none⟩ = some (.int kd n)) : cellInt w (some ⟨b, off, none⟩) k = n := by
  simp [cellInt, h]
theorem cellStr_of {w : World} {b off k : Nat} {s : ByteArray} (h : w.cell? ⟨b, off + k, none⟩ = some (.string s)) : cellStr w (some ⟨b, off, none⟩) k = s := by
  simp [cellStr, h]
section
variable {H : Type} {enc : TypeId × Value → H} {P : Program} {w : World} {base : Nat} {spare : Nat → Bool} {held : Bool}
theorem add_none (b off i : Nat) : (⟨b, off, none⟩ : Addr).add i = ⟨b, off + i, none⟩ := by
  unfold Addr.add
  split
  · simp_all
  · rfl
theorem structs {t e : TypeId} {fs : Array Field} {fuel : Nat} {A : Option Addr} {len cap : Nat} {x : DataW H × List MemPlace} (ht : P.underlying t = some (.slice e))
    (he : P.underlying e = some (.struct fs)) (hone : oneCellFields P fs = true) (hC : P.cellsOf e = fs.size) (hpos : 0 < fs.size) (s : Nat) (hs : fs.size = s)
    (h : DataW.trod enc P w base spare held fuel t [.slice A len cap] = some x) :
    len ≤ cap ∧ cap ≤ maxLen ∧
    (0 < len → ∃ b off, A = some ⟨b, off, none⟩ ∧ b < w.heap.size ∧ ∀ i, i < len → ∀ (j : Nat) (f : Field), fs[j]? = some f →
      ∃ (v : Value) (y : DataW H × List MemPlace) (n : Nat), w.cell? ⟨b, off + (i * s + j), none⟩ = some v ∧ DataW.trod enc P w base spare held n f.type [v] = some y) := by
  subst hs
  rcases open_slice ht h with ⟨h0, _⟩ | ⟨a, len', cap', m, n, D, Pl, hcs, hb, hl, hm, hmm, hx, hi⟩
  · simp at h0
    obtain ⟨rfl, rfl, rfl⟩ := h0
    exact ⟨Nat.le_refl _, Nat.zero_le _, fun h => absurd h (by omega)⟩
  · simp at hcs
    obtain ⟨rfl, rfl, rfl⟩ := hcs
    refine ⟨hl, hm, fun hn => ?_⟩
    have hmlen : len ≤ m := by rw [hmm]; split <;> omega
    have cellAt : ∀ i, i < len → ∀ (j : Nat) (f : Field), fs[j]? = some f → ∃ (v : Value) (y : DataW H × List MemPlace) (n : Nat), w.cell? (a.add (i * fs.size + j)) = some v ∧ DataW.trod enc P w base spare held n f.type [v] = some y := by
      intro i him j f hj
      obtain ⟨cs', hc, ht'⟩ := hi i (by omega)
      rw [hC] at hc
      obtain ⟨ys, n', _, _, _, hyl, hf⟩ := DataW.trod_struct he ht'
      obtain ⟨_, hcl, hat⟩ := World.cells?_some hc
      obtain ⟨ho, hk⟩ := hone_of hone j f hj
      have hjl : j < fs.size := (Array.getElem?_eq_some_iff.1 hj).1
      have hcell := hat j hjl
      have h1 := hf j f hj
      have h2 : (cs'.drop j).take 1 = [cs'[j]'(by omega)] := by rw [List.drop_eq_getElem_cons (by omega)]; rfl
      rw [ho, hk, h2] at h1
      have hys : ys[j]? = some (ys[j]'(by omega)) := List.getElem?_eq_getElem (by omega)
      refine ⟨cs'[j]'(by omega), ys[j]'(by omega), n', ?_, h1.trans hys⟩
      rw [← add_add, hcell]
      exact List.getElem?_eq_getElem (by omega)
    obtain ⟨b, off, spot⟩ := a
    obtain ⟨v0, _, _, hv0, _⟩ := cellAt 0 hn 0 fs[0] (Array.getElem?_eq_getElem hpos)
    have hspot : spot = none := by
      have := World.cell?_spot hv0
      simpa [Addr.add] using this
    subst hspot
    refine ⟨b, off, rfl, ?_, ?_⟩
    · have := World.block_lt_of_cell? _ _ hv0
      rw [add_none] at this
      exact this
    · intro i him j f hj
      obtain ⟨v, y, n, h1, h2⟩ := cellAt i him j f hj
      rw [add_none] at h1
      exact ⟨v, y, n, h1, h2⟩
end
end Go.Proofs.YtmgjgkdbagbleaaGreatDoor.Open
namespace Go.Proofs.YtmgjgkdbagbleaaGreatDoor.Open
open Go.ChangeShapes Go.WideShapes Go.RowKit Go.Deep Go.Proofs.YtmgjgkdbagbleaaGreatDoor.Mem Go.Proofs.YtmgjgkdbagbleaaGreatDoor.Canon
end Go.Proofs.YtmgjgkdbagbleaaGreatDoor.Open

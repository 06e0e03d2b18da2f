/-
  What the writers own, as rows. No walk.
-/
import Derived.Test.YtloakdiioaodaaaBitsAP
import Derived.Test.YtloakdiioaodaaaRefW
import Derived.Test.YtloakdiioaodaaaCoder
namespace Go.Proofs.Ytloakdiioaodaaa.Huff
open Go.RowKit Go.Proofs.Ytloakdiioaodaaa.Mem Go.Proofs.Ytloakdiioaodaaa.Canon Go.Proofs.Ytloakdiioaodaaa.Own

/-- What a writer owns, as a row. -/
theorem Wr.rowOf {K : Nat → Prop} {w : World} {base g c : Nat} {t : TypeId} {rest : List Value} {bs : List Bool} {A : Option Addr} {n : Nat} (h : Wr K w base g t rest bs (.slice A n c)) : (bytesOf bs).length = n ∧ Row w w.heap.size A n 1 (numF .u8 (bytesOf bs)) ∧ (A = none → n = 0 ∧ c = 0) := by
  have ho := h.own
  have hn : (bytesOf bs).length = n := by
    rcases ho.2 with ⟨hv, hx⟩ | ⟨g, cap, cur, hv, _⟩
    · injection hv with _ e _
      exact hx.trans e.symm
    · injection hv with _ e _
      exact e.symm
  rw [hn] at ho
  exact ⟨hn, Row.of_own ho rfl (fun i j hi hj => by have e0 : j = 0 := (by omega); subst e0; exact numL_get (by omega)), (own_wf ho).1⟩

theorem RW.rowOf {K : Nat → Prop} {w : World} {base g c : Nat} {bs : List Bool} {A : Option Addr} {n : Nat} (h : RW K w base g bs (.slice A n c)) : bs.length = n ∧ Row w w.heap.size A n 1 (numF .u8 (b01 bs)) := by
  have ho := h.own
  have hn : bs.length = n := by
    rcases ho.2 with ⟨hv, hx⟩ | ⟨g, cap, cur, hv, _⟩
    · injection hv with _ e _
      exact hx.trans e.symm
    · injection hv with _ e _
      exact e.symm
  rw [hn] at ho
  exact ⟨hn, Row.of_own ho rfl (fun i j hi hj => by have e0 : j = 0 := (by omega); subst e0; exact numL_get (by rw [b01_length]; omega))⟩

end Go.Proofs.Ytloakdiioaodaaa.Huff

/-
  Plain: the bits that canon.Write puts for lengths: each length above 0 as 4 bits, a run of at most 64 zeros as 4 zero bits and 6 bits.
-/
import Derived.Test.YtloakdiioaodaaaBitsBase
namespace Go.Proofs.Ytloakdiioaodaaa.Canon
open Go.Proofs.Ytloakdiioaodaaa.Huff

/-- How many zeros lie from place i on, at most c. -/
def zrun (ls : List Nat) (i : Nat) : Nat → Nat
  | 0 => 0
  | c + 1 => if ls[i]? = some 0 then zrun ls (i + 1) c + 1 else 0
theorem zrun_le (ls : List Nat) : ∀ (c i : Nat), zrun ls i c ≤ c
  | 0, _ => Nat.le_refl _
  | c + 1, i => by
    unfold zrun
    have := zrun_le ls c (i + 1)
    split <;> omega
theorem zrun_fits (ls : List Nat) : ∀ (c i : Nat), i ≤ ls.length → i + zrun ls i c ≤ ls.length
  | 0, i, h => by simpa [zrun] using h
  | c + 1, i, h => by
    unfold zrun
    split
    · rename_i h0
      have hl := (List.getElem?_eq_some_iff.1 h0).1
      have := zrun_fits ls c (i + 1) hl
      omega
    · exact h
/-- What the writer puts from place i on. -/
def wrGo (ls : List Nat) : Nat → Nat → List Bool
  | 0, _ => []
  | f + 1, i =>
    if i < ls.length then
      if ls.getD i 0 = 0 then msb 0 4 4 ++ (msb (zrun ls i 64 - 1) 6 6 ++ wrGo ls f (i + zrun ls i 64))
      else msb (ls.getD i 0) 4 4 ++ wrGo ls f (i + 1)
    else []
/-- All bits that the writer puts. -/
def wrBits (ls : List Nat) : List Bool := wrGo ls ls.length 0
theorem wrGo_done (ls : List Nat) (f i : Nat) (h : ls.length ≤ i) : wrGo ls f i = [] := by
  cases f with
  | zero => rfl
  | succ f => unfold wrGo; rw [if_neg (by omega)]
theorem zrun_pos {ls : List Nat} {i : Nat} (h : ls[i]? = some 0) (c : Nat) : zrun ls i (c + 1) = zrun ls (i + 1) c + 1 := by
  rw [zrun, if_pos h]
/-- Fuel beyond what is left changes nothing. -/
theorem wrGo_fuel (ls : List Nat) : ∀ (f f' i : Nat), ls.length ≤ i + f → ls.length ≤ i + f' → wrGo ls f i = wrGo ls f' i
  | 0, f', i, h, _ => by rw [wrGo_done ls 0 i h, wrGo_done ls f' i h]
  | f + 1, 0, i, _, h => by rw [wrGo_done ls 0 i h, wrGo_done ls (f + 1) i h]
  | f + 1, f' + 1, i, h, h' => by
    unfold wrGo
    by_cases hi : i < ls.length
    · rw [if_pos hi, if_pos hi]
      by_cases h0 : ls.getD i 0 = 0
      · rw [if_pos h0, if_pos h0]
        have hz : ls[i]? = some 0 := by
          rw [List.getD_eq_getElem?_getD, List.getElem?_eq_getElem hi] at h0
          rw [List.getElem?_eq_getElem hi]
          exact congrArg some h0
        have hz1 : zrun ls i 64 = zrun ls (i + 1) 63 + 1 := zrun_pos hz 63
        rw [wrGo_fuel ls f f' (i + zrun ls i 64) (by omega) (by omega)]
      · rw [if_neg h0, if_neg h0, wrGo_fuel ls f f' (i + 1) (by omega) (by omega)]
    · rw [if_neg hi, if_neg hi]
theorem wrGo_length (ls : List Nat) : ∀ (f i : Nat), (wrGo ls f i).length ≤ 10 * f
  | 0, _ => Nat.le_refl _
  | f + 1, i => by
    unfold wrGo
    split
    · split
      · rw [List.length_append, List.length_append, msb_length, msb_length]
        have := wrGo_length ls f (i + zrun ls i 64)
        omega
      · rw [List.length_append, msb_length]
        have := wrGo_length ls f (i + 1)
        omega
    · simp
end Go.Proofs.Ytloakdiioaodaaa.Canon

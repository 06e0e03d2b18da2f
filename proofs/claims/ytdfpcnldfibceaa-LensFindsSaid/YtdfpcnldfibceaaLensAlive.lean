/-
  Plain: the document's example of chapter 7, reckoned.
-/
import Derived.Test.YtdfpcnldfibceaaLensPlain
namespace Go.Proofs.Ytdfpcnldfibceaa.Lens

def mrgF : Nat → List It → List It → List It
  | 0, _, _ => []
  | _ + 1, [], ps => ps
  | _ + 1, l :: ls, [] => l :: ls
  | f + 1, l :: ls, p :: ps => if l.1 ≤ p.1 then l :: mrgF f ls (p :: ps) else p :: mrgF f (l :: ls) ps
theorem mrgF_eq : ∀ (f : Nat) (ls ps : List It), ls.length + ps.length < f → mrgF f ls ps = mrg ls ps
  | 0, _, _, h => by omega
  | _ + 1, [], ps, _ => by rw [mrg_left, mrgF]
  | _ + 1, l :: ls, [], _ => by rw [mrg_right, mrgF]
  | f + 1, l :: ls, p :: ps, h => by
    simp only [List.length_cons] at h
    rw [mrgF]
    by_cases hc : l.1 ≤ p.1
    · rw [if_pos hc, mrg_le hc, mrgF_eq f ls (p :: ps) (by simp only [List.length_cons]; omega)]
    · rw [if_neg hc, mrg_gt hc, mrgF_eq f (l :: ls) ps (by simp only [List.length_cons]; omega)]
def rowF (L : List It) : Nat → List It
  | 0 => L
  | r + 1 => mrgF 1000 L (pairs (rowF L r))
theorem rowF_eq {L : List It} (h : L.length ≤ 300) : ∀ r, rowF L r = rowN L r ∧ (rowN L r).length ≤ 600
  | 0 => ⟨rfl, by unfold rowN; omega⟩
  | r + 1 => by
    obtain ⟨h1, h2⟩ := rowF_eq h r
    have h3 := pairs_length (rowN L r)
    rw [rowF, h1, rowN, mrgF_eq _ _ _ (by omega), mrg_length]
    exact ⟨rfl, by omega⟩
def lenF (k : Nat → Nat) (S : List Nat) : Nat → Nat → Nat → Nat
  | 0, t, s => if s ∈ S.take (nl (rowF (lv k S) 0) t) then 1 else 0
  | r + 1, t, s => (if s ∈ S.take (nl (rowF (lv k S) (r + 1)) t) then 1 else 0) + lenF k S r (2 * (t - nl (rowF (lv k S) (r + 1)) t)) s
theorem lenF_eq {k : Nat → Nat} {S : List Nat} (h : S.length ≤ 300) (r t s : Nat) : lenF k S r t s = lenR k S r t s := by
  have hr := fun r => (rowF_eq (L := lv k S) (by rw [lv_length]; exact h) r).1
  induction r generalizing t with
  | zero => rw [lenF, lenR, hr]
  | succ r ih => rw [lenF, lenR, hr, ih]
theorem alive_E : lensE [5, 1, 1, 2] 15 = 0 := by decide
theorem alive_O : lensO [5, 1, 1, 2] 15 = [1, 3, 3, 2] := by
  unfold lensO
  rw [if_pos alive_E]
  have e : lensV [5, 1, 1, 2] (15 : Int).toNat = (List.range 4).map (lenF (fun s => [5, 1, 1, 2].getD s 0) [1, 2, 3, 0] 14 6) := by
    unfold lensV
    have ho : order (fun s => [5, 1, 1, 2].getD s 0) ([5, 1, 1, 2] : List Nat).length = [1, 2, 3, 0] := by decide
    simp only [ho]
    rw [if_neg (by decide)]
    refine List.map_congr_left fun s _ => ?_
    exact (lenF_eq (by decide) 14 6 s).symm
  rw [e]
  decide
end Go.Proofs.Ytdfpcnldfibceaa.Lens

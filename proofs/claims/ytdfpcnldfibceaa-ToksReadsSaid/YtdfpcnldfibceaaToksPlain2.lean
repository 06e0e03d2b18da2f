/-
  Tokens that are read: each may be; the plain part.
-/
import Derived.Test.YtdfpcnldfibceaaToksRead2
namespace Go.Proofs.Ytdfpcnldfibceaa.Huff
open Go.RowKit Go.Proofs.Ytdfpcnldfibceaa.Mem Go.Proofs.Ytdfpcnldfibceaa.Canon Go.Proofs.Ytdfpcnldfibceaa.Own
open Go.Proofs.Ytdfpcnldfibceaa.Toks (Tk Pc joinT joinE pw mayB)

theorem getR_adv {ls : List Nat} {X th : Nat} (h : (getR ls X th).2.1 = 0) : 0 < (getR ls X th).2.2 := by
  unfold getR at h ⊢
  cases hf : (List.range ls.length).find? (hit ls X th) with
  | some s =>
    obtain ⟨x, hx, hx0, _⟩ := hit_iff.1 (List.find?_some hf)
    simp only [List.getD_eq_getElem?_getD, hx, Option.getD_some]
    omega
  | none =>
    rw [hf] at h
    simp only at h
    split at h <;> cases h
/-- A token that is read may be; it takes at least one bit. -/
def MayTk (t : Tk) : Prop := mayB t.lit t.len t.dist = true ∧ (0 ≤ t.lit ∧ t.lit ≤ 255) ∧ (0 ≤ t.len ∧ t.len ≤ 257)
theorem matchR_may {lf : List Nat} (hlf : lf.length ≤ 12) (bs : List Bool) {v at_ : Nat} (hv1 : 257 ≤ v) (hv2 : v ≤ 264) (h : (matchR lf bs v at_).2.1 = 0) : MayTk (matchR lf bs v at_).1 ∧ at_ ≤ (matchR lf bs v at_).2.2 := by
  unfold matchR at h ⊢
  simp only at h ⊢
  split at h
  · cases h
  · rename_i h1
    rw [if_neg h1]
    split at h
    · rename_i h2
      exact absurd h h2
    · rename_i h2
      rw [if_neg h2]
      split at h
      · cases h
      · rename_i h3
        rw [if_neg h3]
        obtain ⟨s, hs, hsl⟩ := getR_dom lf _ _ (Decidable.not_not.1 h2)
        rw [hs] at h h3 ⊢
        rw [Int.toNat_natCast] at h h3 ⊢
        have b1 := accB_lt bs at_ (v - 257)
        have b2 := accB_lt bs (at_ + (v - 257) + (getR lf (head bs (at_ + (v - 257))) (there bs (at_ + (v - 257)))).2.2) s
        generalize accB bs at_ (v - 257) = x at *
        generalize accB bs (at_ + (v - 257) + (getR lf (head bs (at_ + (v - 257))) (there bs (at_ + (v - 257)))).2.2) s = y at *
        have p1 : pw ((v : Int) - 257) = ((2 ^ (v - 257) : Nat) : Int) := by unfold pw; rw [show ((v : Int) - 257).toNat = v - 257 by omega]
        have p2 : pw (s : Int) = ((2 ^ s : Nat) : Int) := by unfold pw; rw [Int.toNat_natCast]
        have q1 : 2 ^ (v - 257) ≤ 2 ^ 7 := Nat.pow_le_pow_right (by omega) (by omega)
        have q2 : 2 ^ s ≤ 2 ^ 11 := Nat.pow_le_pow_right (by omega) (by omega)
        have q3 := Nat.two_pow_pos (v - 257)
        have q4 := Nat.two_pow_pos s
        have hj := (Toks.join_match ⟨(v : Int), (x : Int), (s : Int), (y : Int)⟩ (by simp only; omega) (by simp only; omega) (by simp only; omega) (by simp only; omega) (by simp only; rw [p1]; omega) (by simp only; rw [p2]; omega)).1
        simp only at hj
        rw [p1, p2] at hj
        generalize 2 ^ (v - 257) = P at *
        generalize 2 ^ s = Q at *
        refine ⟨?_, by show at_ ≤ at_ + (v - 257) + _ + s; omega⟩
        rw [hj]
        refine ⟨?_, ⟨by simp, by simp⟩, ⟨by simp only; omega, by simp only; omega⟩⟩
        unfold mayB
        simp only
        rw [if_neg (by omega), decide_eq_true_eq]
        exact ⟨by first | rfl | trivial, by omega, by omega, by omega, by omega⟩
set_option maxRecDepth 100000 in
theorem tokenR_may {ls lf : List Nat} (hls : ls.length ≤ 265) (hlf : lf.length ≤ 12) (bs : List Bool) {at_ : Nat} (h : (tokenR ls lf bs at_).2.2.1 = 0) :
    ((tokenR ls lf bs at_).2.1 = true → MayTk (tokenR ls lf bs at_).1) ∧ at_ < (tokenR ls lf bs at_).2.2.2 := by
  have hdom := getR_dom ls (head bs at_) (there bs at_)
  have hadv := getR_adv (ls := ls) (X := head bs at_) (th := there bs at_)
  unfold tokenR at h ⊢
  simp only at h ⊢
  generalize getR ls (head bs at_) (there bs at_) = G at *
  obtain ⟨gv, ge, ga⟩ := G
  simp only at h hdom hadv ⊢
  by_cases h1 : ge = 0
  · subst h1
    obtain ⟨s, rfl, hs⟩ := hdom rfl
    have ha := hadv rfl
    rw [if_neg (by simp)] at h ⊢
    by_cases h2 : (s : Int) = 256
    · rw [if_pos h2]
      exact ⟨fun e => (by cases e), by simp only; omega⟩
    · rw [if_neg h2] at h ⊢
      by_cases h3 : (s : Int) < 256
      · rw [if_pos h3]
        refine ⟨fun _ => ⟨?_, ⟨by simp only; omega, by simp only; omega⟩, ⟨by simp, by simp⟩⟩, by simp only; omega⟩
        unfold mayB
        simp
      · rw [if_neg h3, Int.toNat_natCast] at h ⊢
        have hm := matchR_may hlf bs (v := s) (at_ := at_ + ga) (by omega) (by omega) h
        exact ⟨fun _ => hm.1, by simp only; omega⟩
  · rw [if_pos h1] at h
    exact absurd h h1

/-- Tokens, behind those that are read; most: how many bytes there may still be. f: how many rounds at most. -/
def toksGo (ls lf : List Nat) (bs : List Bool) : Nat → Int → List Tk → Nat → List Tk × Int
  | 0, _, _, _ => ([], 0)
  | f + 1, most, out, at_ =>
    let R := tokenR ls lf bs at_
    if R.2.2.1 ≠ 0 then ([], R.2.2.1)
    else if R.2.1 = false then (if padE bs R.2.2.2 = 0 then (out, 0) else ([], 2))
    else if most - max 1 R.1.len < 0 then ([], 6)
    else toksGo ls lf bs f (most - max 1 R.1.len) (out ++ [R.1]) R.2.2.2
def readToks (lb : List Nat) (most : Int) : List Tk × Int :=
  if most < 0 then ([], 13) else
  if (readGo (rbits lb) 265 266 [] false 0).2.1 ≠ 0 then ([], (readGo (rbits lb) 265 266 [] false 0).2.1) else
  if (readGo (rbits lb) 12 13 [] false (readGo (rbits lb) 265 266 [] false 0).2.2).2.1 ≠ 0 then ([], (readGo (rbits lb) 12 13 [] false (readGo (rbits lb) 265 266 [] false 0).2.2).2.1) else
  toksGo (readGo (rbits lb) 265 266 [] false 0).1 (readGo (rbits lb) 12 13 [] false (readGo (rbits lb) 265 266 [] false 0).2.2).1 (rbits lb) ((rbits lb).length + 1) most [] (readGo (rbits lb) 12 13 [] false (readGo (rbits lb) 265 266 [] false 0).2.2).2.2
/-- How many bytes tokens have. -/
def sizeT : List Tk → Int
  | [] => 0
  | t :: ts => max 1 t.len + sizeT ts
theorem sizeT_snoc (ts : List Tk) (t : Tk) : sizeT (ts ++ [t]) = sizeT ts + max 1 t.len := by
  induction ts with
  | nil => simp [sizeT]
  | cons a ts ih => rw [List.cons_append, sizeT, sizeT, ih]; omega
theorem toksGo_may {ls lf : List Nat} (hls : ls.length ≤ 265) (hlf : lf.length ≤ 12) (bs : List Bool) (most0 : Int) (h0 : 0 ≤ most0) : ∀ (f : Nat) (most : Int) (out : List Tk) (at_ : Nat), 0 ≤ most → sizeT out + most = most0 → (∀ t ∈ out, MayTk t) → ∀ ts e, toksGo ls lf bs f most out at_ = (ts, e) →
    (e = 0 → (∀ t ∈ ts, MayTk t) ∧ sizeT ts ≤ most0) ∧ (e ≠ 0 → ts = [])
  | 0, most, out, at_, hm, hs, hall, ts, e, h => by
    rw [toksGo] at h
    injection h with h1 h2
    subst h1 h2
    exact ⟨fun _ => ⟨fun t ht => (by cases ht), by simp only [sizeT]; omega⟩, fun _ => rfl⟩
  | f + 1, most, out, at_, hm, hs, hall, ts, e, h => by
    rw [toksGo] at h
    split at h
    · rename_i h1
      injection h with e1 e2
      subst e1 e2
      exact ⟨fun e => absurd e h1, fun _ => rfl⟩
    · rename_i h1
      have hmay := tokenR_may hls hlf bs (Decidable.not_not.1 h1)
      split at h
      · split at h
        · injection h with e1 e2
          subst e1 e2
          exact ⟨fun _ => ⟨hall, by omega⟩, fun e => absurd rfl e⟩
        · injection h with e1 e2
          subst e1 e2
          exact ⟨fun e => (by cases e), fun _ => rfl⟩
      · rename_i h2
        have h2 : (tokenR ls lf bs at_).2.1 = true := by simpa using h2
        split at h
        · injection h with e1 e2
          subst e1 e2
          exact ⟨fun e => (by cases e), fun _ => rfl⟩
        · rename_i h3
          refine toksGo_may hls hlf bs most0 h0 f _ _ _ (by omega) (by rw [sizeT_snoc]; omega) ?_ ts e h
          intro t ht
          rw [List.mem_append, List.mem_singleton] at ht
          rcases ht with ht | rfl
          · exact hall t ht
          · exact hmay.1 h2
theorem readToks_may (lb : List Nat) (most : Int) : ((readToks lb most).2 = 0 → (∀ t ∈ (readToks lb most).1, MayTk t) ∧ sizeT (readToks lb most).1 ≤ most) ∧ ((readToks lb most).2 ≠ 0 → (readToks lb most).1 = []) := by
  unfold readToks
  split
  · exact ⟨fun e => (by cases e), fun _ => rfl⟩
  · rename_i h0
    split
    · rename_i h1
      exact ⟨fun e => absurd e h1, fun _ => rfl⟩
    · rename_i h1
      split
      · rename_i h2
        exact ⟨fun e => absurd e h2, fun _ => rfl⟩
      · rename_i h2
        have k1 := readGo_ok (bs := rbits lb) (n := 265) 266 [] false 0 (by simp) (by simp) (Decidable.not_not.1 h1)
        have k2 := readGo_ok (bs := rbits lb) (n := 12) 13 [] false (readGo (rbits lb) 265 266 [] false 0).2.2 (by simp) (by simp) (Decidable.not_not.1 h2)
        exact toksGo_may (by rw [k1.2]; omega) (by rw [k2.2]; omega) (rbits lb) most (by omega) _ most [] _ (by omega) (by simp [sizeT]) (fun t ht => (by cases ht)) _ _ rfl
end Go.Proofs.Ytdfpcnldfibceaa.Huff

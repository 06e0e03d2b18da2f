/-
  Plain: rows of leaves and pairs (chapter 7): what lengths they give.
-/
import Derived.Test.YtdfpcnldfibceaaSortPlain
namespace Go.Proofs.Ytdfpcnldfibceaa.Lens
open Go.Proofs.Ytdfpcnldfibceaa.Srt

abbrev It := Nat × List Nat
def leafB (x : It) : Bool := x.2.length == 1
def pairs : List It → List It
  | x :: y :: t => (x.1 + y.1, x.2 ++ y.2) :: pairs t
  | _ => []
def mrg : List It → List It → List It
  | [], ps => ps
  | l :: ls, [] => l :: ls
  | l :: ls, p :: ps => if l.1 ≤ p.1 then l :: mrg ls (p :: ps) else p :: mrg (l :: ls) ps
termination_by ls ps => ls.length + ps.length
def rowN (L : List It) : Nat → List It
  | 0 => L
  | r + 1 => mrg L (pairs (rowN L r))

theorem mrg_left (ps : List It) : mrg [] ps = ps := by rw [mrg]
theorem mrg_right (ls : List It) : mrg ls [] = ls := by
  cases ls with
  | nil => rw [mrg]
  | cons l ls => rw [mrg]
theorem mrg_le {l p : It} {ls ps : List It} (h : l.1 ≤ p.1) : mrg (l :: ls) (p :: ps) = l :: mrg ls (p :: ps) := by rw [mrg, if_pos h]
theorem mrg_gt {l p : It} {ls ps : List It} (h : ¬ l.1 ≤ p.1) : mrg (l :: ls) (p :: ps) = p :: mrg (l :: ls) ps := by rw [mrg, if_neg h]

/-- Whatever holds of both ways of merging. -/
theorem mrg_ind {M : List It → List It → Prop} (h1 : ∀ ps, M [] ps) (h2 : ∀ l ls, M (l :: ls) []) (h3 : ∀ l ls p ps, l.1 ≤ p.1 → M ls (p :: ps) → M (l :: ls) (p :: ps))
    (h4 : ∀ l ls p ps, ¬ l.1 ≤ p.1 → M (l :: ls) ps → M (l :: ls) (p :: ps)) : ∀ ls ps, M ls ps := by
  intro ls ps
  obtain ⟨n, hn⟩ : ∃ n, n = ls.length + ps.length := ⟨_, rfl⟩
  induction n generalizing ls ps with
  | zero =>
    match ls, ps with
    | [], ps => exact h1 ps
    | l :: ls, ps => simp only [List.length_cons] at hn; omega
  | succ n ih =>
    match ls, ps with
    | [], ps => exact h1 ps
    | l :: ls, [] => exact h2 l ls
    | l :: ls, p :: ps =>
      simp only [List.length_cons] at hn
      by_cases h : l.1 ≤ p.1
      · exact h3 l ls p ps h (ih ls (p :: ps) (by simp only [List.length_cons]; omega))
      · exact h4 l ls p ps h (ih (l :: ls) ps (by simp only [List.length_cons]; omega))
theorem mrg_length (ls ps : List It) : (mrg ls ps).length = ls.length + ps.length := by
  refine mrg_ind (M := fun ls ps => (mrg ls ps).length = ls.length + ps.length) ?_ ?_ ?_ ?_ ls ps
  · intro ps; rw [mrg_left]; simp
  · intro l ls; rw [mrg_right]; simp
  · intro l ls p ps h ih; rw [mrg_le h, List.length_cons, ih]; simp only [List.length_cons]; omega
  · intro l ls p ps h ih; rw [mrg_gt h, List.length_cons, ih]; simp only [List.length_cons]; omega
theorem mrg_mem {ls ps : List It} {x : It} : x ∈ mrg ls ps ↔ x ∈ ls ∨ x ∈ ps := by
  refine mrg_ind (M := fun ls ps => x ∈ mrg ls ps ↔ x ∈ ls ∨ x ∈ ps) ?_ ?_ ?_ ?_ ls ps
  · intro ps; rw [mrg_left]; simp
  · intro l ls; rw [mrg_right]; simp
  · intro l ls p ps h ih; rw [mrg_le h, List.mem_cons, ih]; simp only [List.mem_cons]; exact or_assoc.symm
  · intro l ls p ps h ih; rw [mrg_gt h, List.mem_cons, ih]; simp only [List.mem_cons]; exact or_left_comm
/-- What the first t of a merged row are. -/
theorem mrg_take (ls ps : List It) (hl : ∀ x ∈ ls, leafB x = true) (hp : ∀ x ∈ ps, leafB x = false) (t : Nat) (ht : t ≤ ls.length + ps.length) :
    ∃ n q, n + q = t ∧ n ≤ ls.length ∧ q ≤ ps.length ∧ ((mrg ls ps).take t).Perm (ls.take n ++ ps.take q) ∧ ((mrg ls ps).take t).countP leafB = n := by
  revert t
  refine mrg_ind (M := fun ls ps => (∀ x ∈ ls, leafB x = true) → (∀ x ∈ ps, leafB x = false) → ∀ t, t ≤ ls.length + ps.length →
    ∃ n q, n + q = t ∧ n ≤ ls.length ∧ q ≤ ps.length ∧ ((mrg ls ps).take t).Perm (ls.take n ++ ps.take q) ∧ ((mrg ls ps).take t).countP leafB = n) ?_ ?_ ?_ ?_ ls ps hl hp
  · intro ps _ hp t ht
    rw [mrg_left]
    refine ⟨0, t, by omega, by omega, by simpa using ht, by simp, ?_⟩
    rw [List.countP_eq_zero]
    intro x hx
    rw [hp x (List.mem_of_mem_take hx)]
    simp
  · intro l ls hl _ t ht
    rw [mrg_right]
    refine ⟨t, 0, by omega, by simpa using ht, by omega, by simp, ?_⟩
    have : ((l :: ls).take t).countP leafB = ((l :: ls).take t).length := List.countP_eq_length.2 fun x hx => hl x (List.mem_of_mem_take hx)
    rw [this, List.length_take]
    simp at ht
    simp only [List.length_cons]
    omega
  · intro l ls p ps h ih hl hp t ht
    rw [mrg_le h]
    rcases t with _ | t
    · exact ⟨0, 0, rfl, by omega, by omega, by simp, by simp⟩
    · obtain ⟨n, q, h1, h2, h3, h4, h5⟩ := ih (fun x hx => hl x (List.mem_cons_of_mem _ hx)) hp t (by simp only [List.length_cons] at ht ⊢; omega)
      refine ⟨n + 1, q, by omega, by simp only [List.length_cons]; omega, h3, ?_, ?_⟩
      · simpa using h4
      · rw [List.take_succ_cons, List.countP_cons, h5, hl l (by simp)]; rfl
  · intro l ls p ps h ih hl hp t ht
    rw [mrg_gt h]
    rcases t with _ | t
    · exact ⟨0, 0, rfl, by omega, by omega, by simp, by simp⟩
    · obtain ⟨n, q, h1, h2, h3, h4, h5⟩ := ih hl (fun x hx => hp x (List.mem_cons_of_mem _ hx)) t (by simp only [List.length_cons] at ht ⊢; omega)
      refine ⟨n, q + 1, by omega, h2, by simp only [List.length_cons]; omega, ?_, ?_⟩
      · rw [List.take_succ_cons, List.take_succ_cons]
        refine (h4.cons p).trans ?_
        exact (List.perm_middle).symm
      · rw [List.take_succ_cons, List.countP_cons, h5, hp p (by simp)]; rfl

theorem pairs_two (x y : It) (t : List It) : pairs (x :: y :: t) = (x.1 + y.1, x.2 ++ y.2) :: pairs t := rfl
theorem pairs_few {l : List It} (h : l.length ≤ 1) : pairs l = [] := by
  match l with
  | [] => rfl
  | [_] => rfl
  | _ :: _ :: _ => simp at h
theorem pairs_length : ∀ l : List It, (pairs l).length = l.length / 2
  | [] => rfl
  | [_] => by simp [pairs]
  | _ :: _ :: t => by
    rw [pairs_two, List.length_cons, pairs_length t]
    simp only [List.length_cons]
    omega
theorem pairs_mem : ∀ {l : List It} {p : It}, p ∈ pairs l → ∃ x y, x ∈ l ∧ y ∈ l ∧ p = (x.1 + y.1, x.2 ++ y.2)
  | [], p, h => by simp [pairs] at h
  | [_], p, h => by simp [pairs] at h
  | x :: y :: t, p, h => by
    rw [pairs_two] at h
    rcases List.mem_cons.1 h with h | h
    · exact ⟨x, y, by simp, by simp, h⟩
    · obtain ⟨a, b, ha, hb, he⟩ := pairs_mem h
      exact ⟨a, b, by simp [ha], by simp [hb], he⟩
/-- The numbers of all items together. -/
def flat (l : List It) : List Nat := l.flatMap (·.2)
theorem flat_cons (x : It) (l : List It) : flat (x :: l) = x.2 ++ flat l := by simp [flat]
theorem flat_append (a b : List It) : flat (a ++ b) = flat a ++ flat b := by simp [flat]
theorem pairs_flat : ∀ (l : List It) (q : Nat), 2 * q ≤ l.length → flat ((pairs l).take q) = flat (l.take (2 * q))
  | _, 0, _ => by simp [flat]
  | [], q + 1, h => by simp at h
  | [_], q + 1, h => by simp at h; omega
  | x :: y :: t, q + 1, h => by
    rw [pairs_two, show 2 * (q + 1) = 2 * q + 1 + 1 by omega, List.take_succ_cons, List.take_succ_cons, List.take_succ_cons, flat_cons, flat_cons, flat_cons, pairs_flat t q (by simp only [List.length_cons] at h; omega)]
    simp

/-- Leaves. -/
def lv (k : Nat → Nat) (S : List Nat) : List It := S.map fun s => (k s, [s])
theorem lv_leaf {k : Nat → Nat} {S : List Nat} : ∀ x ∈ lv k S, leafB x = true := by
  intro x hx
  obtain ⟨s, _, rfl⟩ := List.mem_map.1 hx
  rfl
theorem lv_length (k : Nat → Nat) (S : List Nat) : (lv k S).length = S.length := by simp [lv]
theorem lv_flat (k : Nat → Nat) (S : List Nat) : flat (lv k S) = S := by
  induction S with
  | nil => rfl
  | cons s t ih => unfold lv at ih ⊢; rw [List.map_cons, flat_cons, ih]; rfl
theorem lv_take (k : Nat → Nat) (S : List Nat) (n : Nat) : (lv k S).take n = lv k (S.take n) := by simp [lv, List.map_take]

section
variable {k : Nat → Nat} {S : List Nat}
theorem row_syms (r : Nat) : ∀ x ∈ rowN (lv k S) r, x.2 ≠ [] := by
  induction r with
  | zero =>
    intro x hx
    obtain ⟨s, _, rfl⟩ := List.mem_map.1 hx
    simp
  | succ r ih =>
    intro x hx
    rcases mrg_mem.1 hx with h | h
    · obtain ⟨s, _, rfl⟩ := List.mem_map.1 h
      simp
    · obtain ⟨a, b, ha, hb, rfl⟩ := pairs_mem h
      simp [ih a ha]
theorem pairs_leaf {l : List It} (h : ∀ x ∈ l, x.2 ≠ []) : ∀ x ∈ pairs l, leafB x = false := by
  intro x hx
  obtain ⟨a, b, ha, hb, rfl⟩ := pairs_mem hx
  have h1 := List.length_pos_iff.2 (h a ha)
  have h2 := List.length_pos_iff.2 (h b hb)
  unfold leafB
  rw [beq_eq_false_iff_ne, List.length_append]
  omega
theorem row_length_zero : (rowN (lv k S) 0).length = S.length := lv_length k S
theorem row_length_succ (r : Nat) : (rowN (lv k S) (r + 1)).length = S.length + (rowN (lv k S) r).length / 2 := by
  rw [rowN, mrg_length, pairs_length, lv_length]
/-- How long rows are. -/
theorem row_length (hn : 0 < S.length) : ∀ r, (rowN (lv k S) r).length + (S.length - 1) / 2 ^ r = 2 * S.length - 1
  | 0 => by rw [row_length_zero]; simp; omega
  | r + 1 => by
    have ih := row_length hn r
    rw [row_length_succ, Nat.pow_succ, ← Nat.div_div_eq_div_mul]
    omega
theorem row_long {limit : Nat} (hl : 1 ≤ limit) (hn : 0 < S.length) (h : S.length ≤ 2 ^ limit) : 2 * S.length - 2 ≤ (rowN (lv k S) (limit - 1)).length := by
  have h1 := row_length (k := k) hn (limit - 1)
  have h2 : (S.length - 1) / 2 ^ (limit - 1) < 2 := by
    rw [Nat.div_lt_iff_lt_mul (Nat.two_pow_pos _)]
    have : 2 ^ limit = 2 * 2 ^ (limit - 1) := by
      obtain ⟨m, rfl⟩ : ∃ m, limit = m + 1 := ⟨limit - 1, by omega⟩
      rw [Nat.pow_succ, Nat.add_sub_cancel, Nat.mul_comm]
    omega
  omega
theorem row_weight {M : Nat} (hk : ∀ s ∈ S, k s ≤ M) : ∀ r, ∀ x ∈ rowN (lv k S) r, x.1 ≤ 2 ^ r * M
  | 0 => by
    intro x hx
    obtain ⟨s, hs, rfl⟩ := List.mem_map.1 hx
    simpa using hk s hs
  | r + 1 => by
    intro x hx
    have hp : M ≤ 2 ^ (r + 1) * M := Nat.le_mul_of_pos_left _ (Nat.two_pow_pos _)
    rcases mrg_mem.1 hx with h | h
    · obtain ⟨s, hs, rfl⟩ := List.mem_map.1 h
      exact Nat.le_trans (hk s hs) hp
    · obtain ⟨a, b, ha, hb, rfl⟩ := pairs_mem h
      have h1 := row_weight hk r a ha
      have h2 := row_weight hk r b hb
      rw [Nat.pow_succ, Nat.mul_right_comm]
      show a.1 + b.1 ≤ _
      omega
/-- How many leaves stand among the first t. -/
def nl (X : List It) (t : Nat) : Nat := (X.take t).countP leafB
theorem nl_succ (X : List It) (i : Nat) (x : It) (h : X[i]? = some x) : nl X (i + 1) = nl X i + if leafB x = true then 1 else 0 := by
  unfold nl
  rw [List.take_add_one, h, Option.toList_some, List.countP_append]
  by_cases hx : leafB x = true <;> simp [hx]
theorem nl_zero (X : List It) : nl X 0 = 0 := by simp [nl]
/-- How long a number's word is by the rows to r, of which t items count. -/
def lenR (k : Nat → Nat) (S : List Nat) : Nat → Nat → Nat → Nat
  | 0, t, s => if s ∈ S.take (nl (rowN (lv k S) 0) t) then 1 else 0
  | r + 1, t, s => (if s ∈ S.take (nl (rowN (lv k S) (r + 1)) t) then 1 else 0) + lenR k S r (2 * (t - nl (rowN (lv k S) (r + 1)) t)) s
theorem nl_row0 (t : Nat) (ht : t ≤ S.length) : nl (rowN (lv k S) 0) t = t := by
  unfold nl rowN
  have : ((lv k S).take t).countP leafB = ((lv k S).take t).length := List.countP_eq_length.2 fun x hx => lv_leaf x (List.mem_of_mem_take hx)
  rw [this, List.length_take, lv_length]
  omega
theorem row_take (r t : Nat) (ht : t ≤ (rowN (lv k S) (r + 1)).length) : ∃ n q, n + q = t ∧ n ≤ S.length ∧ 2 * q ≤ (rowN (lv k S) r).length ∧ nl (rowN (lv k S) (r + 1)) t = n ∧
    ((rowN (lv k S) (r + 1)).take t).Perm ((lv k S).take n ++ (pairs (rowN (lv k S) r)).take q) := by
  rw [rowN, mrg_length] at ht
  obtain ⟨n, q, h1, h2, h3, h4, h5⟩ := mrg_take (lv k S) (pairs (rowN (lv k S) r)) lv_leaf (pairs_leaf (row_syms r)) t ht
  rw [lv_length] at h2
  rw [pairs_length] at h3
  exact ⟨n, q, h1, h2, by omega, h5, h4⟩
theorem count_take (hS : S.Nodup) (n s : Nat) : (S.take n).count s = if s ∈ S.take n then 1 else 0 := by
  have h := hS.sublist (List.take_sublist n S)
  rw [h.count]
theorem lenR_count (hS : S.Nodup) : ∀ (r t : Nat), t ≤ (rowN (lv k S) r).length → ∀ s, (flat ((rowN (lv k S) r).take t)).count s = lenR k S r t s
  | 0, t, ht, s => by
    rw [row_length_zero] at ht
    rw [lenR, nl_row0 t ht, ← count_take hS, rowN, lv_take, lv_flat]
  | r + 1, t, ht, s => by
    obtain ⟨n, q, h1, h2, h3, h4, h5⟩ := row_take r t ht
    rw [lenR, h4, show t - n = q by omega, ← lenR_count hS r (2 * q) h3 s, ← count_take hS]
    have : (flat ((rowN (lv k S) (r + 1)).take t)).Perm (flat ((lv k S).take n ++ (pairs (rowN (lv k S) r)).take q)) := h5.flatMap_right _
    rw [this.count_eq, flat_append, List.count_append, pairs_flat _ _ h3, lv_take, lv_flat]
end

/-- Put in behind all that aren't above it. -/
def ins (k : Nat → Nat) (x : Nat) : List Nat → List Nat
  | [] => [x]
  | y :: t => if k x < k y then x :: y :: t else y :: ins k x t
theorem ins_perm (k : Nat → Nat) (x : Nat) : ∀ l, (ins k x l).Perm (x :: l)
  | [] => List.Perm.refl _
  | y :: t => by
    rw [ins]
    split
    · exact List.Perm.refl _
    · exact ((ins_perm k x t).cons y).trans (List.Perm.swap x y t)
theorem ins_sorted {k : Nat → Nat} {x : Nat} : ∀ {l : List Nat}, l.Pairwise (Lt k) → (∀ y ∈ l, y < x) → (ins k x l).Pairwise (Lt k)
  | [], _, _ => by simp [ins]
  | y :: t, h, hx => by
    rw [List.pairwise_cons] at h
    rw [ins]
    split
    · rename_i hlt
      refine List.pairwise_cons.2 ⟨fun z hz => ?_, List.pairwise_cons.2 h⟩
      rcases List.mem_cons.1 hz with rfl | hz
      · exact .inl hlt
      · exact Lt.trans (.inl hlt) (h.1 z hz)
    · rename_i hge
      refine List.pairwise_cons.2 ⟨fun z hz => ?_, ins_sorted h.2 fun z hz => hx z (List.mem_cons_of_mem _ hz)⟩
      rcases List.mem_cons.1 ((ins_perm k x t).mem_iff.1 hz) with rfl | hz
      · have := hx y (by simp)
        unfold Lt
        omega
      · exact h.1 z hz
/-- The used numbers below n, those that are less often ahead. -/
def order (k : Nat → Nat) : Nat → List Nat
  | 0 => []
  | n + 1 => if k n = 0 then order k n else ins k n (order k n)
/-- The used numbers, rising. -/
def used (k : Nat → Nat) : Nat → List Nat
  | 0 => []
  | n + 1 => if k n = 0 then used k n else used k n ++ [n]
theorem used_mem {k : Nat → Nat} {n s : Nat} : s ∈ used k n ↔ s < n ∧ k s ≠ 0 := by
  induction n with
  | zero => simp [used]
  | succ n ih =>
    rw [used]
    split
    · rename_i h0
      rw [ih]
      constructor
      · rintro ⟨h1, h2⟩; exact ⟨by omega, h2⟩
      · rintro ⟨h1, h2⟩
        refine ⟨?_, h2⟩
        rcases Nat.lt_or_eq_of_le (Nat.lt_succ_iff.1 h1) with h | h
        · exact h
        · subst h; exact absurd h0 h2
    · rename_i h0
      rw [List.mem_append, ih, List.mem_singleton]
      constructor
      · rintro (⟨h1, h2⟩ | rfl)
        · exact ⟨by omega, h2⟩
        · exact ⟨by omega, h0⟩
      · rintro ⟨h1, h2⟩
        rcases Nat.lt_or_eq_of_le (Nat.lt_succ_iff.1 h1) with h | h
        · exact .inl ⟨h, h2⟩
        · exact .inr h
theorem used_rising (k : Nat → Nat) : ∀ n, (used k n).Pairwise (· < ·)
  | 0 => by simp [used]
  | n + 1 => by
    rw [used]
    split
    · exact used_rising k n
    · refine List.pairwise_append.2 ⟨used_rising k n, by simp, fun a ha b hb => ?_⟩
      rw [List.mem_singleton] at hb
      subst hb
      exact (used_mem.1 ha).1
theorem used_length (k : Nat → Nat) : ∀ n, (used k n).length ≤ n
  | 0 => by simp [used]
  | n + 1 => by
    have := used_length k n
    rw [used]
    split
    · omega
    · simp; omega
theorem order_perm (k : Nat → Nat) : ∀ n, (order k n).Perm (used k n)
  | 0 => List.Perm.refl _
  | n + 1 => by
    rw [order, used]
    split
    · exact order_perm k n
    · refine (ins_perm k n _).trans ?_
      refine ((order_perm k n).cons n).trans ?_
      exact (List.perm_append_singleton n (used k n)).symm
theorem order_mem {k : Nat → Nat} {n s : Nat} : s ∈ order k n ↔ s < n ∧ k s ≠ 0 := by rw [(order_perm k n).mem_iff, used_mem]
theorem order_sorted (k : Nat → Nat) : ∀ n, (order k n).Pairwise (Lt k)
  | 0 => by simp [order]
  | n + 1 => by
    rw [order]
    split
    · exact order_sorted k n
    · exact ins_sorted (order_sorted k n) fun y hy => (order_mem.1 hy).1
theorem Lt.irrefl {k : Nat → Nat} {x : Nat} : ¬ Lt k x x := by unfold Lt; omega
theorem order_nodup (k : Nat → Nat) (n : Nat) : (order k n).Nodup := (order_sorted k n).imp fun h e => by subst e; exact Lt.irrefl h
theorem order_length (k : Nat → Nat) (n : Nat) : (order k n).length ≤ n := by rw [(order_perm k n).length_eq]; exact used_length k n
theorem order_unique {k : Nat → Nat} {n : Nat} {l : List Nat} (h : l.Pairwise (Lt k)) (hp : l.Perm (used k n)) : l = order k n := by
  refine List.Perm.eq_of_pairwise ?_ h (order_sorted k n) (hp.trans (order_perm k n).symm)
  intro a b _ _ h1 h2
  exact absurd (h1.trans h2) Lt.irrefl

/-- The lengths for any numbers of times and a limit, and the error. -/
def lensV (ks : List Nat) (limit : Nat) : List Nat :=
  let k := fun s => ks.getD s 0
  let S := order k ks.length
  if S.length < 2 then (List.range ks.length).map fun s => if s ∈ S then 1 else 0
  else (List.range ks.length).map (lenR k S (limit - 1) (2 * S.length - 2))
def lensE (ks : List Nat) (limit : Int) : Int :=
  if ks.length > 300 ∨ limit < 1 ∨ limit > 15 then 13 else if (order (fun s => ks.getD s 0) ks.length).length > 2 ^ limit.toNat then 6 else 0
def lensO (ks : List Nat) (limit : Int) : List Nat := if lensE ks limit = 0 then lensV ks limit.toNat else []
end Go.Proofs.Ytdfpcnldfibceaa.Lens

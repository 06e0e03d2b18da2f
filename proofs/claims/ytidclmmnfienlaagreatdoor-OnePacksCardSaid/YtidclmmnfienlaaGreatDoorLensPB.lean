/-
  Plain: rows of leaves and pairs (chapter 7): what lengths they give.
  Plain: the lengths that the rows give: what they cost, what they weigh (chapter 7).
-/
import Derived.Test.YtidclmmnfienlaaGreatDoorSortBase

namespace Go.Proofs.YtidclmmnfienlaaGreatDoor.Lens
open Go.Proofs.YtidclmmnfienlaaGreatDoor.Srt

abbrev It := Nat × List Nat
def leafB (x : It) : Bool := x.2.length == 1
def pairs : List It → List It
  | x :: y :: t => (x.1 + y.1, x.2 ++ y.2) :: pairs t
  | _ => []
def mrg : List It → List It → List It
  | [], ps => ps
  | l :: ls, [] => l :: ls
  | l :: ls, p :: ps => if l.1 ≤ p.1 then l :: mrg ls (p :: ps) else p :: mrg (l :: ls) ps
termination_by ls ps => ls.length + ps.length
def rowN (L : List It) : Nat → List It
  | 0 => L
  | r + 1 => mrg L (pairs (rowN L r))

theorem mrg_left (ps : List It) : mrg [] ps = ps := by rw [mrg]
theorem mrg_right (ls : List It) : mrg ls [] = ls := by
  cases ls with
  | nil => rw [mrg]
  | cons l ls => rw [mrg]
theorem mrg_le {l p : It} {ls ps : List It} (h : l.1 ≤ p.1) : mrg (l :: ls) (p :: ps) = l :: mrg ls (p :: ps) := by rw [mrg, if_pos h]
theorem mrg_gt {l p : It} {ls ps : List It} (h : ¬ l.1 ≤ p.1) : mrg (l :: ls) (p :: ps) = p :: mrg (l :: ls) ps := by rw [mrg, if_neg h]

/-- Whatever holds of both ways of merging. -/
theorem mrg_ind {M : List It → List It → Prop} (h1 : ∀ ps, M [] ps) (h2 : ∀ l ls, M (l :: ls) []) (h3 : ∀ l ls p ps, l.1 ≤ p.1 → M ls (p :: ps) → M (l :: ls) (p :: ps))
    (h4 : ∀ l ls p ps, ¬ l.1 ≤ p.1 → M (l :: ls) ps → M (l :: ls) (p :: ps)) : ∀ ls ps, M ls ps := by
  intro ls ps
  obtain ⟨n, hn⟩ : ∃ n, n = ls.length + ps.length := ⟨_, rfl⟩
  induction n generalizing ls ps with
  | zero =>
    match ls, ps with
    | [], ps => exact h1 ps
    | l :: ls, ps => simp only [List.length_cons] at hn; omega
  | succ n ih =>
    match ls, ps with
    | [], ps => exact h1 ps
    | l :: ls, [] => exact h2 l ls
    | l :: ls, p :: ps =>
      simp only [List.length_cons] at hn
      by_cases h : l.1 ≤ p.1
      · exact h3 l ls p ps h (ih ls (p :: ps) (by simp only [List.length_cons]; omega))
      · exact h4 l ls p ps h (ih (l :: ls) ps (by simp only [List.length_cons]; omega))
theorem mrg_length (ls ps : List It) : (mrg ls ps).length = ls.length + ps.length := by
  refine mrg_ind (M := fun ls ps => (mrg ls ps).length = ls.length + ps.length) ?_ ?_ ?_ ?_ ls ps
  · intro ps; rw [mrg_left]; simp
  · intro l ls; rw [mrg_right]; simp
  · intro l ls p ps h ih; rw [mrg_le h, List.length_cons, ih]; simp only [List.length_cons]; omega
  · intro l ls p ps h ih; rw [mrg_gt h, List.length_cons, ih]; simp only [List.length_cons]; omega
theorem mrg_mem {ls ps : List It} {x : It} : x ∈ mrg ls ps ↔ x ∈ ls ∨ x ∈ ps := by
  refine mrg_ind (M := fun ls ps => x ∈ mrg ls ps ↔ x ∈ ls ∨ x ∈ ps) ?_ ?_ ?_ ?_ ls ps
  · intro ps; rw [mrg_left]; simp
  · intro l ls; rw [mrg_right]; simp
  · intro l ls p ps h ih; rw [mrg_le h, List.mem_cons, ih]; simp only [List.mem_cons]; exact or_assoc.symm
  · intro l ls p ps h ih; rw [mrg_gt h, List.mem_cons, ih]; simp only [List.mem_cons]; exact or_left_comm
/-- What the first t of a merged row are. -/
theorem mrg_take (ls ps : List It) (hl : ∀ x ∈ ls, leafB x = true) (hp : ∀ x ∈ ps, leafB x = false) (t : Nat) (ht : t ≤ ls.length + ps.length) :
    ∃ n q, n + q = t ∧ n ≤ ls.length ∧ q ≤ ps.length ∧ ((mrg ls ps).take t).Perm (ls.take n ++ ps.take q) ∧ ((mrg ls ps).take t).countP leafB = n := by
  revert t
  refine mrg_ind (M := fun ls ps => (∀ x ∈ ls, leafB x = true) → (∀ x ∈ ps, leafB x = false) → ∀ t, t ≤ ls.length + ps.length →
    ∃ n q, n + q = t ∧ n ≤ ls.length ∧ q ≤ ps.length ∧ ((mrg ls ps).take t).Perm (ls.take n ++ ps.take q) ∧ ((mrg ls ps).take t).countP leafB = n) ?_ ?_ ?_ ?_ ls ps hl hp
  · intro ps _ hp t ht
    rw [mrg_left]
    refine ⟨0, t, by omega, by omega, by simpa using ht, by simp, ?_⟩
    rw [List.countP_eq_zero]
    intro x hx
    rw [hp x (List.mem_of_mem_take hx)]
    simp
  · intro l ls hl _ t ht
    rw [mrg_right]
    refine ⟨t, 0, by omega, by simpa using ht, by omega, by simp, ?_⟩
    have : ((l :: ls).take t).countP leafB = ((l :: ls).take t).length := List.countP_eq_length.2 fun x hx => hl x (List.mem_of_mem_take hx)
    rw [this, List.length_take]
    simp at ht
    simp only [List.length_cons]
    omega
  · intro l ls p ps h ih hl hp t ht
    rw [mrg_le h]
    rcases t with _ | t
    · exact ⟨0, 0, rfl, by omega, by omega, by simp, by simp⟩
    · obtain ⟨n, q, h1, h2, h3, h4, h5⟩ := ih (fun x hx => hl x (List.mem_cons_of_mem _ hx)) hp t (by simp only [List.length_cons] at ht ⊢; omega)
      refine ⟨n + 1, q, by omega, by simp only [List.length_cons]; omega, h3, ?_, ?_⟩
      · simpa using h4
      · rw [List.take_succ_cons, List.countP_cons, h5, hl l (by simp)]; rfl
  · intro l ls p ps h ih hl hp t ht
    rw [mrg_gt h]
    rcases t with _ | t
    · exact ⟨0, 0, rfl, by omega, by omega, by simp, by simp⟩
    · obtain ⟨n, q, h1, h2, h3, h4, h5⟩ := ih hl (fun x hx => hp x (List.mem_cons_of_mem _ hx)) t (by simp only [List.length_cons] at ht ⊢; omega)
      refine ⟨n, q + 1, by omega, h2, by simp only [List.length_cons]; omega, ?_, ?_⟩
      · rw [List.take_succ_cons, List.take_succ_cons]
        refine (h4.cons p).trans ?_
        exact (List.perm_middle).symm
      · rw [List.take_succ_cons, List.countP_cons, h5, hp p (by simp)]; rfl

theorem pairs_two (x y : It) (t : List It) : pairs (x :: y :: t) = (x.1 + y.1, x.2 ++ y.2) :: pairs t := rfl
theorem pairs_few {l : List It} (h : l.length ≤ 1) : pairs l = [] := by
  match l with
  | [] => rfl
  | [_] => rfl
  | _ :: _ :: _ => simp at h
theorem pairs_length : ∀ l : List It, (pairs l).length = l.length / 2
  | [] => rfl
  | [_] => by simp [pairs]
  | _ :: _ :: t => by
    rw [pairs_two, List.length_cons, pairs_length t]
    simp only [List.length_cons]
    omega
theorem pairs_mem : ∀ {l : List It} {p : It}, p ∈ pairs l → ∃ x y, x ∈ l ∧ y ∈ l ∧ p = (x.1 + y.1, x.2 ++ y.2)
  | [], p, h => by simp [pairs] at h
  | [_], p, h => by simp [pairs] at h
  | x :: y :: t, p, h => by
    rw [pairs_two] at h
    rcases List.mem_cons.1 h with h | h
    · exact ⟨x, y, by simp, by simp, h⟩
    · obtain ⟨a, b, ha, hb, he⟩ := pairs_mem h
      exact ⟨a, b, by simp [ha], by simp [hb], he⟩
/-- The numbers of all items together. -/
def flat (l : List It) : List Nat := l.flatMap (·.2)
theorem flat_cons (x : It) (l : List It) : flat (x :: l) = x.2 ++ flat l := by simp [flat]
theorem flat_append (a b : List It) : flat (a ++ b) = flat a ++ flat b := by simp [flat]
theorem pairs_flat : ∀ (l : List It) (q : Nat), 2 * q ≤ l.length → flat ((pairs l).take q) = flat (l.take (2 * q))
  | _, 0, _ => by simp [flat]
  | [], q + 1, h => by simp at h
  | [_], q + 1, h => by simp at h; omega
  | x :: y :: t, q + 1, h => by
    rw [pairs_two, show 2 * (q + 1) = 2 * q + 1 + 1 by omega, List.take_succ_cons, List.take_succ_cons, List.take_succ_cons, flat_cons, flat_cons, flat_cons, pairs_flat t q (by simp only [List.length_cons] at h; omega)]
    simp

/-- Leaves. -/
def lv (k : Nat → Nat) (S : List Nat) : List It := S.map fun s => (k s, [s])
theorem lv_leaf {k : Nat → Nat} {S : List Nat} : ∀ x ∈ lv k S, leafB x = true := by
  intro x hx
  obtain ⟨s, _, rfl⟩ := List.mem_map.1 hx
  rfl
theorem lv_length (k : Nat → Nat) (S : List Nat) : (lv k S).length = S.length := by simp [lv]
theorem lv_flat (k : Nat → Nat) (S : List Nat) : flat (lv k S) = S := by
  induction S with
  | nil => rfl
  | cons s t ih => unfold lv at ih ⊢; rw [List.map_cons, flat_cons, ih]; rfl
theorem lv_take (k : Nat → Nat) (S : List Nat) (n : Nat) : (lv k S).take n = lv k (S.take n) := by simp [lv, List.map_take]

section
variable {k : Nat → Nat} {S : List Nat}
theorem row_syms (r : Nat) : ∀ x ∈ rowN (lv k S) r, x.2 ≠ [] := by
  induction r with
  | zero =>
    intro x hx
    obtain ⟨s, _, rfl⟩ := List.mem_map.1 hx
    simp
  | succ r ih =>
    intro x hx
    rcases mrg_mem.1 hx with h | h
    · obtain ⟨s, _, rfl⟩ := List.mem_map.1 h
      simp
    · obtain ⟨a, b, ha, hb, rfl⟩ := pairs_mem h
      simp [ih a ha]
theorem pairs_leaf {l : List It} (h : ∀ x ∈ l, x.2 ≠ []) : ∀ x ∈ pairs l, leafB x = false := by
  intro x hx
  obtain ⟨a, b, ha, hb, rfl⟩ := pairs_mem hx
  have h1 := List.length_pos_iff.2 (h a ha)
  have h2 := List.length_pos_iff.2 (h b hb)
  unfold leafB
  rw [beq_eq_false_iff_ne, List.length_append]
  omega
theorem row_length_zero : (rowN (lv k S) 0).length = S.length := lv_length k S
theorem row_length_succ (r : Nat) : (rowN (lv k S) (r + 1)).length = S.length + (rowN (lv k S) r).length / 2 := by
  rw [rowN, mrg_length, pairs_length, lv_length]
/-- How long rows are. -/
theorem row_length (hn : 0 < S.length) : ∀ r, (rowN (lv k S) r).length + (S.length - 1) / 2 ^ r = 2 * S.length - 1
  | 0 => by rw [row_length_zero]; simp; omega
  | r + 1 => by
    have ih := row_length hn r
    rw [row_length_succ, Nat.pow_succ, ← Nat.div_div_eq_div_mul]
    omega
theorem row_long {limit : Nat} (hl : 1 ≤ limit) (hn : 0 < S.length) (h : S.length ≤ 2 ^ limit) : 2 * S.length - 2 ≤ (rowN (lv k S) (limit - 1)).length := by
  have h1 := row_length (k := k) hn (limit - 1)
  have h2 : (S.length - 1) / 2 ^ (limit - 1) < 2 := by
    rw [Nat.div_lt_iff_lt_mul (Nat.two_pow_pos _)]
    have : 2 ^ limit = 2 * 2 ^ (limit - 1) := by
      obtain ⟨m, rfl⟩ : ∃ m, limit = m + 1 := ⟨limit - 1, by omega⟩
      rw [Nat.pow_succ, Nat.add_sub_cancel, Nat.mul_comm]
    omega
  omega
theorem row_weight {M : Nat} (hk : ∀ s ∈ S, k s ≤ M) : ∀ r, ∀ x ∈ rowN (lv k S) r, x.1 ≤ 2 ^ r * M
  | 0 => by
    intro x hx
    obtain ⟨s, hs, rfl⟩ := List.mem_map.1 hx
    simpa using hk s hs
  | r + 1 => by
    intro x hx
    have hp : M ≤ 2 ^ (r + 1) * M := Nat.le_mul_of_pos_left _ (Nat.two_pow_pos _)
    rcases mrg_mem.1 hx with h | h
    · obtain ⟨s, hs, rfl⟩ := List.mem_map.1 h
      exact Nat.le_trans (hk s hs) hp
    · obtain ⟨a, b, ha, hb, rfl⟩ := pairs_mem h
      have h1 := row_weight hk r a ha
      have h2 := row_weight hk r b hb
      rw [Nat.pow_succ, Nat.mul_right_comm]
      show a.1 + b.1 ≤ _
      omega
/-- How many leaves stand among the first t. -/
def nl (X : List It) (t : Nat) : Nat := (X.take t).countP leafB
theorem nl_succ (X : List It) (i : Nat) (x : It) (h : X[i]? = some x) : nl X (i + 1) = nl X i + if leafB x = true then 1 else 0 := by
  unfold nl
  rw [List.take_add_one, h, Option.toList_some, List.countP_append]
  by_cases hx : leafB x = true <;> simp [hx]
theorem nl_zero (X : List It) : nl X 0 = 0 := by simp [nl]
/-- How long a number's word is by the rows to r, of which t items count. -/
def lenR (k : Nat → Nat) (S : List Nat) : Nat → Nat → Nat → Nat
  | 0, t, s => if s ∈ S.take (nl (rowN (lv k S) 0) t) then 1 else 0
  | r + 1, t, s => (if s ∈ S.take (nl (rowN (lv k S) (r + 1)) t) then 1 else 0) + lenR k S r (2 * (t - nl (rowN (lv k S) (r + 1)) t)) s
theorem nl_row0 (t : Nat) (ht : t ≤ S.length) : nl (rowN (lv k S) 0) t = t := by
  unfold nl rowN
  have : ((lv k S).take t).countP leafB = ((lv k S).take t).length := List.countP_eq_length.2 fun x hx => lv_leaf x (List.mem_of_mem_take hx)
  rw [this, List.length_take, lv_length]
  omega
theorem row_take (r t : Nat) (ht : t ≤ (rowN (lv k S) (r + 1)).length) : ∃ n q, n + q = t ∧ n ≤ S.length ∧ 2 * q ≤ (rowN (lv k S) r).length ∧ nl (rowN (lv k S) (r + 1)) t = n ∧
    ((rowN (lv k S) (r + 1)).take t).Perm ((lv k S).take n ++ (pairs (rowN (lv k S) r)).take q) := by
  rw [rowN, mrg_length] at ht
  obtain ⟨n, q, h1, h2, h3, h4, h5⟩ := mrg_take (lv k S) (pairs (rowN (lv k S) r)) lv_leaf (pairs_leaf (row_syms r)) t ht
  rw [lv_length] at h2
  rw [pairs_length] at h3
  exact ⟨n, q, h1, h2, by omega, h5, h4⟩
theorem count_take (hS : S.Nodup) (n s : Nat) : (S.take n).count s = if s ∈ S.take n then 1 else 0 := by
  have h := hS.sublist (List.take_sublist n S)
  rw [h.count]
theorem lenR_count (hS : S.Nodup) : ∀ (r t : Nat), t ≤ (rowN (lv k S) r).length → ∀ s, (flat ((rowN (lv k S) r).take t)).count s = lenR k S r t s
  | 0, t, ht, s => by
    rw [row_length_zero] at ht
    rw [lenR, nl_row0 t ht, ← count_take hS, rowN, lv_take, lv_flat]
  | r + 1, t, ht, s => by
    obtain ⟨n, q, h1, h2, h3, h4, h5⟩ := row_take r t ht
    rw [lenR, h4, show t - n = q by omega, ← lenR_count hS r (2 * q) h3 s, ← count_take hS]
    have : (flat ((rowN (lv k S) (r + 1)).take t)).Perm (flat ((lv k S).take n ++ (pairs (rowN (lv k S) r)).take q)) := h5.flatMap_right _
    rw [this.count_eq, flat_append, List.count_append, pairs_flat _ _ h3, lv_take, lv_flat]
end

/-- Put in behind all that aren't above it. -/
def ins (k : Nat → Nat) (x : Nat) : List Nat → List Nat
  | [] => [x]
  | y :: t => if k x < k y then x :: y :: t else y :: ins k x t
theorem ins_perm (k : Nat → Nat) (x : Nat) : ∀ l, (ins k x l).Perm (x :: l)
  | [] => List.Perm.refl _
  | y :: t => by
    rw [ins]
    split
    · exact List.Perm.refl _
    · exact ((ins_perm k x t).cons y).trans (List.Perm.swap x y t)
theorem ins_sorted {k : Nat → Nat} {x : Nat} : ∀ {l : List Nat}, l.Pairwise (Lt k) → (∀ y ∈ l, y < x) → (ins k x l).Pairwise (Lt k)
  | [], _, _ => by simp [ins]
  | y :: t, h, hx => by
    rw [List.pairwise_cons] at h
    rw [ins]
    split
    · rename_i hlt
      refine List.pairwise_cons.2 ⟨fun z hz => ?_, List.pairwise_cons.2 h⟩
      rcases List.mem_cons.1 hz with rfl | hz
      · exact .inl hlt
      · exact Lt.trans (.inl hlt) (h.1 z hz)
    · rename_i hge
      refine List.pairwise_cons.2 ⟨fun z hz => ?_, ins_sorted h.2 fun z hz => hx z (List.mem_cons_of_mem _ hz)⟩
      rcases List.mem_cons.1 ((ins_perm k x t).mem_iff.1 hz) with rfl | hz
      · have := hx y (by simp)
        unfold Lt
        omega
      · exact h.1 z hz
/-- The used numbers below n, those that are less often ahead. -/
def order (k : Nat → Nat) : Nat → List Nat
  | 0 => []
  | n + 1 => if k n = 0 then order k n else ins k n (order k n)
/-- The used numbers, rising. -/
def used (k : Nat → Nat) : Nat → List Nat
  | 0 => []
  | n + 1 => if k n = 0 then used k n else used k n ++ [n]
theorem used_mem {k : Nat → Nat} {n s : Nat} : s ∈ used k n ↔ s < n ∧ k s ≠ 0 := by
  induction n with
  | zero => simp [used]
  | succ n ih =>
    rw [used]
    split
    · rename_i h0
      rw [ih]
      constructor
      · rintro ⟨h1, h2⟩; exact ⟨by omega, h2⟩
      · rintro ⟨h1, h2⟩
        refine ⟨?_, h2⟩
        rcases Nat.lt_or_eq_of_le (Nat.lt_succ_iff.1 h1) with h | h
        · exact h
        · subst h; exact absurd h0 h2
    · rename_i h0
      rw [List.mem_append, ih, List.mem_singleton]
      constructor
      · rintro (⟨h1, h2⟩ | rfl)
        · exact ⟨by omega, h2⟩
        · exact ⟨by omega, h0⟩
      · rintro ⟨h1, h2⟩
        rcases Nat.lt_or_eq_of_le (Nat.lt_succ_iff.1 h1) with h | h
        · exact .inl ⟨h, h2⟩
        · exact .inr h
theorem used_rising (k : Nat → Nat) : ∀ n, (used k n).Pairwise (· < ·)
  | 0 => by simp [used]
  | n + 1 => by
    rw [used]
    split
    · exact used_rising k n
    · refine List.pairwise_append.2 ⟨used_rising k n, by simp, fun a ha b hb => ?_⟩
      rw [List.mem_singleton] at hb
      subst hb
      exact (used_mem.1 ha).1
theorem used_length (k : Nat → Nat) : ∀ n, (used k n).length ≤ n
  | 0 => by simp [used]
  | n + 1 => by
    have := used_length k n
    rw [used]
    split
    · omega
    · simp; omega
theorem order_perm (k : Nat → Nat) : ∀ n, (order k n).Perm (used k n)
  | 0 => List.Perm.refl _
  | n + 1 => by
    rw [order, used]
    split
    · exact order_perm k n
    · refine (ins_perm k n _).trans ?_
      refine ((order_perm k n).cons n).trans ?_
      exact (List.perm_append_singleton n (used k n)).symm
theorem order_mem {k : Nat → Nat} {n s : Nat} : s ∈ order k n ↔ s < n ∧ k s ≠ 0 := by rw [(order_perm k n).mem_iff, used_mem]
theorem order_sorted (k : Nat → Nat) : ∀ n, (order k n).Pairwise (Lt k)
  | 0 => by simp [order]
  | n + 1 => by
    rw [order]
    split
    · exact order_sorted k n
    · exact ins_sorted (order_sorted k n) fun y hy => (order_mem.1 hy).1
theorem Lt.irrefl {k : Nat → Nat} {x : Nat} : ¬ Lt k x x := by unfold Lt; omega
theorem order_nodup (k : Nat → Nat) (n : Nat) : (order k n).Nodup := (order_sorted k n).imp fun h e => by subst e; exact Lt.irrefl h
theorem order_length (k : Nat → Nat) (n : Nat) : (order k n).length ≤ n := by rw [(order_perm k n).length_eq]; exact used_length k n
theorem order_unique {k : Nat → Nat} {n : Nat} {l : List Nat} (h : l.Pairwise (Lt k)) (hp : l.Perm (used k n)) : l = order k n := by
  refine List.Perm.eq_of_pairwise ?_ h (order_sorted k n) (hp.trans (order_perm k n).symm)
  intro a b _ _ h1 h2
  exact absurd (h1.trans h2) Lt.irrefl

/-- The lengths for any numbers of times and a limit, and the error. -/
def lensV (ks : List Nat) (limit : Nat) : List Nat :=
  let k := fun s => ks.getD s 0
  let S := order k ks.length
  if S.length < 2 then (List.range ks.length).map fun s => if s ∈ S then 1 else 0
  else (List.range ks.length).map (lenR k S (limit - 1) (2 * S.length - 2))
def lensE (ks : List Nat) (limit : Int) : Int :=
  if ks.length > 300 ∨ limit < 1 ∨ limit > 15 then 13 else if (order (fun s => ks.getD s 0) ks.length).length > 2 ^ limit.toNat then 6 else 0
def lensO (ks : List Nat) (limit : Int) : List Nat := if lensE ks limit = 0 then lensV ks limit.toNat else []
end Go.Proofs.YtidclmmnfienlaaGreatDoor.Lens

namespace Go.Proofs.YtidclmmnfienlaaGreatDoor.Lens
open Go.Proofs.YtidclmmnfienlaaGreatDoor.Srt

/-- What items weigh. -/
def ws : List It → Nat
  | [] => 0
  | x :: t => x.1 + ws t
theorem ws_append (a b : List It) : ws (a ++ b) = ws a + ws b := by
  induction a with
  | nil => simp [ws]
  | cons x t ih => rw [List.cons_append, ws, ws, ih]; omega
theorem ws_perm {a b : List It} (h : a.Perm b) : ws a = ws b := by
  induction h with
  | nil => rfl
  | cons x _ ih => rw [ws, ws, ih]
  | swap x y l => simp only [ws]; omega
  | trans _ _ h1 h2 => rw [h1, h2]
theorem ws_take_le (l : List It) {i j : Nat} (h : i ≤ j) : ws (l.take i) ≤ ws (l.take j) := by
  have e : l.take j = l.take i ++ (l.drop i).take (j - i) := by rw [← List.take_add]; congr 1; omega
  rw [e, ws_append]; omega
theorem ws_pairs : ∀ (l : List It) (q : Nat), 2 * q ≤ l.length → ws ((pairs l).take q) = ws (l.take (2 * q))
  | _, 0, _ => by simp [ws]
  | [], q + 1, h => by simp at h
  | [_], q + 1, h => by simp at h; omega
  | x :: y :: t, q + 1, h => by
    rw [pairs_two, show 2 * (q + 1) = 2 * q + 1 + 1 by omega, List.take_succ_cons, List.take_succ_cons, List.take_succ_cons, ws, ws, ws, ws_pairs t q (by simp only [List.length_cons] at h; omega)]
    show x.1 + y.1 + _ = _
    omega
def Asc (l : List It) : Prop := l.Pairwise fun x y => x.1 ≤ y.1
theorem asc_mrg (ls ps : List It) (hl : Asc ls) (hp : Asc ps) : Asc (mrg ls ps) := by
  revert hl hp
  refine mrg_ind (M := fun ls ps => Asc ls → Asc ps → Asc (mrg ls ps)) ?_ ?_ ?_ ?_ ls ps
  · intro ps _ hp; rw [mrg_left]; exact hp
  · intro l ls hl _; rw [mrg_right]; exact hl
  · intro l ls p ps h ih hl hp
    rw [mrg_le h]
    have h1 := List.pairwise_cons.1 hl
    have h2 := List.pairwise_cons.1 hp
    refine List.pairwise_cons.2 ⟨fun x hx => ?_, ih h1.2 hp⟩
    rcases mrg_mem.1 hx with hx | hx
    · exact h1.1 x hx
    · rcases List.mem_cons.1 hx with rfl | hx
      · exact h
      · exact Nat.le_trans h (h2.1 x hx)
  · intro l ls p ps h ih hl hp
    rw [mrg_gt h]
    have h1 := List.pairwise_cons.1 hl
    have h2 := List.pairwise_cons.1 hp
    refine List.pairwise_cons.2 ⟨fun x hx => ?_, ih hl h2.2⟩
    rcases mrg_mem.1 hx with hx | hx
    · rcases List.mem_cons.1 hx with rfl | hx
      · omega
      · have := h1.1 x hx; omega
    · exact h2.1 x hx
theorem asc_pairs : ∀ {l : List It}, Asc l → Asc (pairs l)
  | [], _ => by simp [pairs, Asc]
  | [_], _ => by simp [pairs, Asc]
  | x :: y :: t, h => by
    have h1 := List.pairwise_cons.1 h
    have h2 := List.pairwise_cons.1 h1.2
    rw [pairs_two]
    refine List.pairwise_cons.2 ⟨fun p hp => ?_, asc_pairs h2.2⟩
    obtain ⟨a, b, ha, hb, rfl⟩ := pairs_mem hp
    have e1 := h1.1 a (by simp [ha])
    have e2 := h2.1 b hb
    show x.1 + y.1 ≤ a.1 + b.1
    omega
theorem asc_row {L : List It} (h : Asc L) : ∀ r, Asc (rowN L r)
  | 0 => h
  | r + 1 => asc_mrg _ _ h (asc_pairs (asc_row h r))
theorem asc_lv {k : Nat → Nat} {S : List Nat} (h : S.Pairwise (Lt k)) : Asc (lv k S) := by
  unfold Asc lv
  rw [List.pairwise_map]
  exact h.imp fun hx => by unfold Lt at hx; show k _ ≤ k _; omega
theorem asc_last {p : It} {ps : List It} (h : Asc (p :: ps)) {j : Nat} (hj : j ≤ ps.length) : ws ((p :: ps).take j) + p.1 ≤ ws ((p :: ps).take (j + 1)) := by
  have hlt : j < (p :: ps).length := by simp only [List.length_cons]; omega
  rw [List.take_succ_eq_append_getElem hlt, ws_append]
  have : p.1 ≤ ((p :: ps)[j]).1 := by
    rcases j with _ | j
    · exact Nat.le_refl _
    · exact (List.pairwise_cons.1 h).1 _ (by simp)
  simp only [ws]
  omega
/-- The first of a merged row are the least. -/
theorem mrg_least (ls ps : List It) (hl : Asc ls) (hp : Asc ps) (i j t : Nat) (hi : i ≤ ls.length) (hj : j ≤ ps.length) (ht : t ≤ i + j) : ws ((mrg ls ps).take t) ≤ ws (ls.take i) + ws (ps.take j) := by
  revert i j t
  revert hl hp
  refine mrg_ind (M := fun ls ps => Asc ls → Asc ps → ∀ i j t, i ≤ ls.length → j ≤ ps.length → t ≤ i + j → ws ((mrg ls ps).take t) ≤ ws (ls.take i) + ws (ps.take j)) ?_ ?_ ?_ ?_ ls ps
  · intro ps _ _ i j t hi hj ht
    rw [mrg_left]
    have : i = 0 := by simpa using hi
    have := ws_take_le ps (show t ≤ j by omega)
    omega
  · intro l ls _ _ i j t hi hj ht
    rw [mrg_right]
    have : j = 0 := by simpa using hj
    have := ws_take_le (l :: ls) (show t ≤ i by omega)
    omega
  · intro l ls p ps h ih hl hp i j t hi hj ht
    rw [mrg_le h]
    simp only [List.length_cons] at hi hj
    have hl' := (List.pairwise_cons.1 hl).2
    rcases t with _ | t
    · simp [ws]
    · rw [List.take_succ_cons, ws]
      rcases i with _ | i
      · obtain ⟨j, rfl⟩ : ∃ j', j = j' + 1 := ⟨j - 1, by omega⟩
        have x1 := ih hl' hp 0 j t (by omega) (by simp only [List.length_cons]; omega) (by omega)
        have x2 := asc_last hp (j := j) (by omega)
        simp only [List.take_zero, ws] at x1 ⊢
        omega
      · have x1 := ih hl' hp i j t (by omega) (by simp only [List.length_cons]; omega) (by omega)
        rw [List.take_succ_cons, ws]
        omega
  · intro l ls p ps h ih hl hp i j t hi hj ht
    rw [mrg_gt h]
    simp only [List.length_cons] at hi hj
    have hp' := (List.pairwise_cons.1 hp).2
    rcases t with _ | t
    · simp [ws]
    · rw [List.take_succ_cons, ws]
      rcases j with _ | j
      · obtain ⟨i, rfl⟩ : ∃ i', i = i' + 1 := ⟨i - 1, by omega⟩
        have x1 := ih hl hp' i 0 t (by simp only [List.length_cons]; omega) (by omega) (by omega)
        have x2 := asc_last hl (j := i) (by omega)
        simp only [List.take_zero, ws] at x1 ⊢
        omega
      · have x1 := ih hl hp' i j t (by simp only [List.length_cons]; omega) (by omega) (by omega)
        rw [List.take_succ_cons, ws]
        omega
theorem sub_least {L L' : List It} (h : L'.Sublist L) : Asc L → ∀ t, t ≤ L'.length → ws (L.take t) ≤ ws L' := by
  induction h with
  | slnil => intro _ t _; simp [ws]
  | @cons l1 l2 a hs ih =>
    intro ha t ht
    have h1 := List.pairwise_cons.1 ha
    have hle := hs.length_le
    have x1 := ih h1.2 t ht
    rcases t with _ | t
    · simp [ws]
    · have x2 := asc_last ha (j := t) (by omega)
      have e : ws ((a :: l2).take (t + 1)) = a.1 + ws (l2.take t) := by rw [List.take_succ_cons, ws]
      have x3 : ws (l2.take t) + a.1 ≤ ws (l2.take (t + 1)) := by
        have hlt : t < l2.length := by omega
        rw [List.take_succ_eq_append_getElem hlt, ws_append]
        have := h1.1 _ (List.getElem_mem hlt)
        simp only [ws]
        omega
      omega
  | @cons_cons l1 l2 a hs ih =>
    intro ha t ht
    have h1 := List.pairwise_cons.1 ha
    rcases t with _ | t
    · simp [ws]
    · rw [List.take_succ_cons, ws, ws]
      have := ih h1.2 t (by simpa using ht)
      omega

/-- A sum over numbers. -/
def sm (f : Nat → Nat) : List Nat → Nat
  | [] => 0
  | s :: t => f s + sm f t
theorem sm_append (f : Nat → Nat) (a b : List Nat) : sm f (a ++ b) = sm f a + sm f b := by
  induction a with
  | nil => simp [sm]
  | cons x t ih => rw [List.cons_append, sm, sm, ih]; omega
theorem sm_perm {f : Nat → Nat} {a b : List Nat} (h : a.Perm b) : sm f a = sm f b := by
  induction h with
  | nil => rfl
  | cons x _ ih => rw [sm, sm, ih]
  | swap x y l => simp only [sm]; omega
  | trans _ _ h1 h2 => rw [h1, h2]
theorem sm_congr {f g : Nat → Nat} {l : List Nat} (h : ∀ s ∈ l, f s = g s) : sm f l = sm g l := by
  induction l with
  | nil => rfl
  | cons x t ih => rw [sm, sm, h x (by simp), ih fun s hs => h s (List.mem_cons_of_mem _ hs)]
theorem sm_le {f g : Nat → Nat} {l : List Nat} (h : ∀ s ∈ l, f s ≤ g s) : sm f l ≤ sm g l := by
  induction l with
  | nil => exact Nat.le_refl _
  | cons x t ih =>
    have h1 := h x (by simp)
    have h2 := ih fun s hs => h s (List.mem_cons_of_mem _ hs)
    rw [sm, sm]; omega
theorem sm_add (f g : Nat → Nat) (l : List Nat) : sm (fun s => f s + g s) l = sm f l + sm g l := by
  induction l with
  | nil => rfl
  | cons x t ih => rw [sm, sm, sm, ih]; omega
theorem sm_mul (c : Nat) (f : Nat → Nat) (l : List Nat) : sm (fun s => c * f s) l = c * sm f l := by
  induction l with
  | nil => simp [sm]
  | cons x t ih => rw [sm, sm, ih, Nat.mul_add]
theorem sm_const (c : Nat) (l : List Nat) : sm (fun _ => c) l = l.length * c := by
  induction l with
  | nil => simp [sm]
  | cons x t ih => rw [sm, ih, List.length_cons, Nat.add_mul]; omega

/-- The sum of f over the rows to r in whose level a length is. -/
def lev (f : Nat → Nat) (limit l : Nat) : Nat → Nat
  | 0 => if limit ≤ l then f 0 else 0
  | r + 1 => lev f limit l r + if limit - (r + 1) ≤ l then f (r + 1) else 0
theorem lev_pow {limit l : Nat} (h2 : l ≤ limit) : ∀ r, r < limit → if limit - r ≤ l then lev (fun r => 2 ^ r) limit l r + 2 ^ (limit - l) = 2 ^ (r + 1) else lev (fun r => 2 ^ r) limit l r = 0
  | 0, h => by
    by_cases e : limit ≤ l
    · have : limit = l := by omega
      subst this
      simp [lev]
    · simp [lev, e]
  | r + 1, h => by
    have ih := lev_pow h2 r (by omega)
    by_cases e : limit - (r + 1) ≤ l
    · rw [if_pos e, lev, if_pos e]
      by_cases e' : limit - r ≤ l
      · rw [if_pos e'] at ih
        rw [Nat.pow_succ 2 (r + 1)]
        omega
      · rw [if_neg e'] at ih
        have : limit - l = r + 1 := by omega
        rw [ih, this, Nat.pow_succ 2 (r + 1)]
        omega
    · rw [if_neg e, lev, if_neg e]
      rw [if_neg (by omega)] at ih
      omega
theorem lev_pow_all {limit l : Nat} (h2 : l ≤ limit) (hl : 1 ≤ limit) : lev (fun r => 2 ^ r) limit l (limit - 1) + 2 ^ (limit - l) = 2 ^ limit := by
  have h := lev_pow h2 (limit - 1) (by omega)
  by_cases e : 1 ≤ l
  · rw [if_pos (by omega), show limit - 1 + 1 = limit by omega] at h
    exact h
  · rw [if_neg (by omega)] at h
    have : l = 0 := by omega
    rw [h, this]
    simp
theorem lev_const {limit l c : Nat} (h2 : l ≤ limit) : ∀ r, r < limit → lev (fun _ => c) limit l r = c * (l - (limit - r - 1))
  | 0, h => by
    by_cases e : limit ≤ l
    · have : limit = l := by omega
      subst this
      simp only [lev, Nat.le_refl, if_true]
      rw [show limit - (limit - 0 - 1) = 1 by omega, Nat.mul_one]
    · rw [lev, if_neg e, show l - (limit - 0 - 1) = 0 by omega, Nat.mul_zero]
  | r + 1, h => by
    rw [lev, lev_const h2 r (by omega)]
    by_cases e : limit - (r + 1) ≤ l
    · rw [if_pos e, show l - (limit - (r + 1) - 1) = l - (limit - r - 1) + 1 by omega, Nat.mul_add, Nat.mul_one]
    · rw [if_neg e, show l - (limit - (r + 1) - 1) = 0 by omega, show l - (limit - r - 1) = 0 by omega, Nat.mul_zero]
theorem lev_const_all {limit l c : Nat} (h2 : l ≤ limit) (hl : 1 ≤ limit) : lev (fun _ => c) limit l (limit - 1) = c * l := by
  rw [lev_const h2 _ (by omega), show l - (limit - (limit - 1) - 1) = l by omega]

section
variable {k : Nat → Nat} {S : List Nat}
theorem lev_sum_c (l : Nat → Nat) (limit r : Nat) (T : List Nat) : sm (fun s => lev (fun r => 2 ^ r) limit (l s) (r + 1)) T = sm (fun s => lev (fun r => 2 ^ r) limit (l s) r) T + (T.filter fun s => decide (limit - (r + 1) ≤ l s)).length * 2 ^ (r + 1) := by
  induction T with
  | nil => simp [sm]
  | cons s t ih =>
    rw [sm, sm, ih, lev, List.filter_cons]
    by_cases e : limit - (r + 1) ≤ l s
    · rw [if_pos e, if_pos (by simpa using e), List.length_cons, Nat.add_mul]; omega
    · rw [if_neg e, if_neg (by simpa using e)]; omega
theorem lev_sum_w (l : Nat → Nat) (limit r : Nat) (T : List Nat) : sm (fun s => lev (fun _ => k s) limit (l s) (r + 1)) T = sm (fun s => lev (fun _ => k s) limit (l s) r) T + ws (lv k (T.filter fun s => decide (limit - (r + 1) ≤ l s))) := by
  induction T with
  | nil => simp [sm, lv, ws]
  | cons s t ih =>
    rw [sm, sm, ih, lev, List.filter_cons]
    by_cases e : limit - (r + 1) ≤ l s
    · rw [if_pos e, if_pos (by simpa using e)]; unfold lv; rw [List.map_cons, ws]; omega
    · rw [if_neg e, if_neg (by simpa using e)]; omega
theorem lev_sum_c0 (l : Nat → Nat) (limit : Nat) (T : List Nat) : sm (fun s => lev (fun r => 2 ^ r) limit (l s) 0) T = (T.filter fun s => decide (limit ≤ l s)).length := by
  induction T with
  | nil => simp [sm]
  | cons s t ih =>
    rw [sm, ih, lev, List.filter_cons]
    by_cases e : limit ≤ l s
    · rw [if_pos e, if_pos (by simpa using e), List.length_cons]; omega
    · rw [if_neg e, if_neg (by simpa using e)]; omega
theorem lev_sum_w0 (l : Nat → Nat) (limit : Nat) (T : List Nat) : sm (fun s => lev (fun _ => k s) limit (l s) 0) T = ws (lv k (T.filter fun s => decide (limit ≤ l s))) := by
  induction T with
  | nil => simp [sm, lv, ws]
  | cons s t ih =>
    rw [sm, ih, lev, List.filter_cons]
    by_cases e : limit ≤ l s
    · rw [if_pos e, if_pos (by simpa using e)]; unfold lv; rw [List.map_cons, ws]
    · rw [if_neg e, if_neg (by simpa using e)]; omega
theorem lv_filter (p : Nat → Bool) : (lv k (S.filter p)).Sublist (lv k S) := (List.filter_sublist).map _
/-- Whatever lengths: the first of a row cost no more. -/
theorem row_least (hS : S.Pairwise (Lt k)) (l : Nat → Nat) (limit : Nat) : ∀ r t, 2 ^ r * t ≤ sm (fun s => lev (fun r => 2 ^ r) limit (l s) r) S →
    t ≤ (rowN (lv k S) r).length ∧ ws ((rowN (lv k S) r).take t) ≤ sm (fun s => lev (fun _ => k s) limit (l s) r) S
  | 0, t, h => by
    rw [lev_sum_c0, Nat.pow_zero, Nat.one_mul] at h
    rw [lev_sum_w0]
    have hsub := lv_filter (k := k) (S := S) fun s => decide (limit ≤ l s)
    have hlen := hsub.length_le
    rw [lv_length] at hlen
    exact ⟨by unfold rowN; omega, sub_least hsub (asc_lv hS) t (by rw [lv_length]; exact h)⟩
  | r + 1, t, h => by
    rw [lev_sum_c] at h
    rw [lev_sum_w]
    have hsub := lv_filter (k := k) (S := S) fun s => decide (limit - (r + 1) ≤ l s)
    have hlen := hsub.length_le
    rw [lv_length, lv_length] at hlen
    obtain ⟨c, hc⟩ : ∃ c, c = (S.filter fun s => decide (limit - (r + 1) ≤ l s)).length := ⟨_, rfl⟩
    rw [← hc] at h hlen
    have hw := sub_least hsub (asc_lv hS) c (by rw [lv_length]; omega)
    have hasc := asc_pairs (asc_row (asc_lv hS) r)
    by_cases ht : t ≤ c
    · have x := mrg_least (lv k S) (pairs (rowN (lv k S) r)) (asc_lv hS) hasc c 0 t (by rw [lv_length]; exact hlen) (by omega) (by omega)
      simp only [List.take_zero, ws] at x
      refine ⟨by rw [row_length_succ]; omega, ?_⟩
      rw [rowN]
      omega
    · obtain ⟨q, rfl⟩ : ∃ q, t = c + q := ⟨t - c, by omega⟩
      have hq : 2 ^ r * (2 * q) ≤ sm (fun s => lev (fun r => 2 ^ r) limit (l s) r) S := by
        rw [Nat.mul_add, Nat.mul_comm c] at h
        have e : 2 ^ (r + 1) * q = 2 ^ r * (2 * q) := by rw [Nat.pow_succ, Nat.mul_assoc]
        omega
      obtain ⟨h1, h2⟩ := row_least hS l limit r (2 * q) hq
      have x := mrg_least (lv k S) (pairs (rowN (lv k S) r)) (asc_lv hS) hasc c q (c + q) (by rw [lv_length]; exact hlen) (by rw [pairs_length]; omega) (Nat.le_refl _)
      rw [ws_pairs _ _ h1] at x
      refine ⟨by rw [row_length_succ]; omega, ?_⟩
      rw [rowN]
      omega

/-- Each item weighs what its numbers do. -/
theorem row_sm (r : Nat) : ∀ x ∈ rowN (lv k S) r, x.1 = sm k x.2 ∧ ∀ s ∈ x.2, s ∈ S := by
  induction r with
  | zero =>
    intro x hx
    obtain ⟨s, hs, rfl⟩ := List.mem_map.1 hx
    exact ⟨by simp [sm], by simpa using hs⟩
  | succ r ih =>
    intro x hx
    rcases mrg_mem.1 hx with h | h
    · obtain ⟨s, hs, rfl⟩ := List.mem_map.1 h
      exact ⟨by simp [sm], by simpa using hs⟩
    · obtain ⟨a, b, ha, hb, rfl⟩ := pairs_mem h
      refine ⟨?_, fun s hs => ?_⟩
      · show a.1 + b.1 = sm k (a.2 ++ b.2)
        rw [sm_append, (ih a ha).1, (ih b hb).1]
      · rcases List.mem_append.1 hs with h | h
        · exact (ih a ha).2 s h
        · exact (ih b hb).2 s h
theorem ws_flat {X : List It} (h : ∀ x ∈ X, x.1 = sm k x.2) : ws X = sm k (flat X) := by
  induction X with
  | nil => rfl
  | cons x t ih => rw [ws, flat_cons, sm_append, h x (by simp), ih fun y hy => h y (List.mem_cons_of_mem _ hy)]
theorem sm_one (hS : S.Nodup) {x : Nat} (hx : x ∈ S) : sm (fun s => if x = s then k s else 0) S = k x := by
  induction S with
  | nil => cases hx
  | cons y t ih =>
    rw [List.nodup_cons] at hS
    rw [sm]
    rcases List.mem_cons.1 hx with rfl | hx'
    · rw [if_pos rfl]
      have : sm (fun s => if x = s then k s else 0) t = sm (fun _ => 0) t := sm_congr fun s hs => by
        rw [if_neg]; rintro rfl; exact hS.1 hs
      rw [this, sm_const]; omega
    · rw [ih hS.2 hx', if_neg (by intro e; rw [e] at hx'; exact hS.1 hx')]; omega
theorem sm_count (hS : S.Nodup) : ∀ {l : List Nat}, (∀ x ∈ l, x ∈ S) → sm k l = sm (fun s => k s * l.count s) S
  | [], _ => by
    have : sm (fun s => k s * ([] : List Nat).count s) S = sm (fun _ => 0) S := sm_congr fun s _ => by simp
    rw [this, sm_const]; simp [sm]
  | x :: t, h => by
    rw [sm, sm_count hS (l := t) fun y hy => h y (List.mem_cons_of_mem _ hy), ← sm_one (k := k) hS (h x (by simp)), ← sm_add]
    refine sm_congr fun s _ => ?_
    rw [List.count_cons]
    by_cases e : x = s
    · subst e; simp [Nat.mul_add]; omega
    · simp [e]
/-- What the lengths by the rows cost. -/
theorem cost_rows (hS : S.Nodup) {r t : Nat} (ht : t ≤ (rowN (lv k S) r).length) : sm (fun s => k s * lenR k S r t s) S = ws ((rowN (lv k S) r).take t) := by
  rw [ws_flat fun x hx => (row_sm r x (List.mem_of_mem_take hx)).1, sm_count hS (l := flat _) ?_]
  · exact sm_congr fun s _ => by rw [lenR_count hS r t ht s]
  · intro s hs
    obtain ⟨x, hx, hs⟩ := List.mem_flatMap.1 hs
    exact (row_sm r x (List.mem_of_mem_take hx)).2 s hs
/-- No other lengths cost less. -/
theorem best (hS : S.Pairwise (Lt k)) (hn : 2 ≤ S.length) {limit : Nat} (hl : 1 ≤ limit) (l : Nat → Nat) (hl2 : ∀ s ∈ S, l s ≤ limit) (hw : sm (fun s => 2 ^ (limit - l s)) S ≤ 2 ^ limit) :
    sm (fun s => k s * lenR k S (limit - 1) (2 * S.length - 2) s) S ≤ sm (fun s => k s * l s) S := by
  have hN : S.Nodup := hS.imp fun h e => by subst e; exact Lt.irrefl h
  have e1 : sm (fun s => lev (fun r => 2 ^ r) limit (l s) (limit - 1)) S + sm (fun s => 2 ^ (limit - l s)) S = S.length * 2 ^ limit := by
    rw [← sm_add, ← sm_const]
    exact sm_congr fun s hs => lev_pow_all (hl2 s hs) hl
  have e2 : sm (fun s => lev (fun _ => k s) limit (l s) (limit - 1)) S = sm (fun s => k s * l s) S := sm_congr fun s hs => lev_const_all (hl2 s hs) hl
  have e3 : 2 ^ (limit - 1) * (2 * S.length - 2) + 2 ^ limit = S.length * 2 ^ limit := by
    obtain ⟨m, rfl⟩ : ∃ m, limit = m + 1 := ⟨limit - 1, by omega⟩
    obtain ⟨n, hn'⟩ : ∃ n, S.length = n + 1 := ⟨S.length - 1, by omega⟩
    rw [hn', Nat.add_sub_cancel, show 2 * (n + 1) - 2 = 2 * n by omega, Nat.pow_succ, Nat.add_mul, Nat.one_mul, ← Nat.mul_assoc, Nat.mul_comm n]
  obtain ⟨h1, h2⟩ := row_least hS l limit (limit - 1) (2 * S.length - 2) (by omega)
  rw [cost_rows hN h1]
  omega

/-- In a merged row no pair stands ahead of a leaf that is as light. -/
theorem mrg_cut (ls ps : List It) (hl : ∀ x ∈ ls, leafB x = true) (hp : ∀ x ∈ ps, leafB x = false) (ha : Asc ls) (t : Nat) (ht : t ≤ ls.length + ps.length) :
    ∀ n, ((mrg ls ps).take t).countP leafB = n → ∀ x, ls[n]? = some x → ∀ p ∈ ps.take (t - n), p.1 < x.1 := by
  revert t
  refine mrg_ind (M := fun ls ps => (∀ x ∈ ls, leafB x = true) → (∀ x ∈ ps, leafB x = false) → Asc ls → ∀ t, t ≤ ls.length + ps.length →
    ∀ n, ((mrg ls ps).take t).countP leafB = n → ∀ x, ls[n]? = some x → ∀ p ∈ ps.take (t - n), p.1 < x.1) ?_ ?_ ?_ ?_ ls ps hl hp ha
  · intro ps _ _ _ t _ n _ x hx
    simp at hx
  · intro l ls _ _ _ t _ n _ x _ p hp
    simp at hp
  · intro l ls p ps h ih hl hp ha t ht n hn x hx q hq
    rw [mrg_le h] at hn
    rcases t with _ | t
    · simp at hn; subst hn; simp at hq
    · rw [List.take_succ_cons, List.countP_cons, hl l (by simp)] at hn
      simp only [if_true] at hn
      subst hn
      rw [List.getElem?_cons_succ] at hx
      rw [show ∀ m, t + 1 - (m + 1) = t - m from fun m => by omega] at hq
      exact ih (fun x hx => hl x (List.mem_cons_of_mem _ hx)) hp (List.pairwise_cons.1 ha).2 t (by simp only [List.length_cons] at ht ⊢; omega) _ rfl x hx q hq
  · intro l ls p ps h ih hl hp ha t ht n hn x hx q hq
    rw [mrg_gt h] at hn
    rcases t with _ | t
    · simp at hn; subst hn; simp at hq
    · rw [List.take_succ_cons, List.countP_cons, hp p (by simp)] at hn
      simp only [Bool.false_eq_true, if_false, Nat.add_zero] at hn
      have hnt : n ≤ t := by
        have := List.countP_le_length (p := leafB) (l := (mrg (l :: ls) ps).take t)
        rw [List.length_take] at this
        omega
      rw [show t + 1 - n = (t - n) + 1 by omega, List.take_succ_cons] at hq
      rcases List.mem_cons.1 hq with rfl | hq
      · have : l.1 ≤ x.1 := by
          rcases n with _ | n
          · simp at hx; rw [hx]; exact Nat.le_refl _
          · rw [List.getElem?_cons_succ] at hx
            exact (List.pairwise_cons.1 ha).1 x (List.mem_of_getElem? hx)
        omega
      · exact ih hl (fun x hx => hp x (List.mem_cons_of_mem _ hx)) ha t (by simp only [List.length_cons] at ht ⊢; omega) n hn x hx q hq
theorem pairs_heavy : ∀ {l : List It} {q : Nat} {x : It}, x ∈ l.take (2 * q) → 2 * q ≤ l.length → ∃ p ∈ (pairs l).take q, x.1 ≤ p.1
  | _, 0, x, hx, _ => by simp at hx
  | [], q + 1, x, _, h => by simp at h
  | [_], q + 1, x, _, h => by simp at h; omega
  | a :: b :: t, q + 1, x, hx, h => by
    rw [show 2 * (q + 1) = 2 * q + 1 + 1 by omega, List.take_succ_cons, List.take_succ_cons] at hx
    rw [pairs_two, List.take_succ_cons]
    rcases List.mem_cons.1 hx with rfl | hx
    · exact ⟨_, List.mem_cons_self, Nat.le_add_right _ _⟩
    · rcases List.mem_cons.1 hx with rfl | hx
      · exact ⟨_, List.mem_cons_self, Nat.le_add_left _ _⟩
      · obtain ⟨p, hp, hle⟩ := pairs_heavy hx (by simp only [List.length_cons] at h; omega)
        exact ⟨p, List.mem_cons_of_mem _ hp, hle⟩
/-- The leaves among the first t of a row are the first leaves. -/
theorem row_leaves (r t : Nat) (ht : t ≤ (rowN (lv k S) r).length) : nl (rowN (lv k S) r) t ≤ S.length ∧ ∀ x ∈ (lv k S).take (nl (rowN (lv k S) r) t), x ∈ (rowN (lv k S) r).take t := by
  rcases r with _ | r
  · rw [row_length_zero] at ht
    rw [nl_row0 t ht]
    exact ⟨ht, fun x hx => hx⟩
  · obtain ⟨n, q, h1, h2, h3, h4, h5⟩ := row_take r t ht
    rw [h4]
    exact ⟨h2, fun x hx => h5.mem_iff.2 (List.mem_append_left _ hx)⟩
/-- Each row has no more leaves than the one behind it. -/
theorem nl_mono (hS : S.Pairwise (Lt k)) (r t : Nat) (ht : t ≤ (rowN (lv k S) (r + 1)).length) :
    2 * (t - nl (rowN (lv k S) (r + 1)) t) ≤ (rowN (lv k S) r).length ∧ nl (rowN (lv k S) r) (2 * (t - nl (rowN (lv k S) (r + 1)) t)) ≤ nl (rowN (lv k S) (r + 1)) t := by
  obtain ⟨n, q, h1, h2, h3, h4, h5⟩ := row_take r t ht
  rw [h4, show t - n = q by omega]
  refine ⟨h3, ?_⟩
  obtain ⟨g1, g2⟩ := row_leaves r (2 * q) h3
  rcases Nat.lt_or_ge n (nl (rowN (lv k S) r) (2 * q)) with h | h
  · exfalso
    have hlt : n < (lv k S).length := by rw [lv_length]; omega
    have hx : (lv k S)[n] ∈ (lv k S).take (nl (rowN (lv k S) r) (2 * q)) := List.mem_take_iff_getElem.2 ⟨n, by omega, rfl⟩
    obtain ⟨p, hp, hle⟩ := pairs_heavy (g2 _ hx) h3
    have hc := mrg_cut (lv k S) (pairs (rowN (lv k S) r)) lv_leaf (pairs_leaf (row_syms r)) (asc_lv hS) t (by rw [lv_length, pairs_length]; rw [row_length_succ] at ht; exact ht) n h4 _ (List.getElem?_eq_getElem hlt) p (by rw [show t - n = q by omega]; exact hp)
    omega
  · exact h
theorem lenR_zero (hS : S.Pairwise (Lt k)) {m s : Nat} (hs : s ∉ S.take m) : ∀ r t, t ≤ (rowN (lv k S) r).length → nl (rowN (lv k S) r) t ≤ m → lenR k S r t s = 0
  | 0, t, ht, h => by
    rw [lenR, if_neg]
    exact fun hm => hs (List.take_subset_take_left _ h hm)
  | r + 1, t, ht, h => by
    obtain ⟨h1, h2⟩ := nl_mono hS r t ht
    rw [lenR, if_neg fun hm => hs (List.take_subset_take_left _ h hm), lenR_zero hS hs r _ h1 (by omega)]
theorem lenR_le (r t s : Nat) : lenR k S r t s ≤ r + 1 := by
  induction r generalizing t with
  | zero => rw [lenR]; split <;> omega
  | succ r ih =>
    rw [lenR]
    have := ih (2 * (t - nl (rowN (lv k S) (r + 1)) t))
    split <;> omega
/-- What the lengths by the rows weigh. -/
theorem weigh (hS : S.Pairwise (Lt k)) : ∀ r t, t ≤ (rowN (lv k S) r).length → sm (fun s => 2 ^ (r + 1 - lenR k S r t s)) S + 2 ^ r * t = S.length * 2 ^ (r + 1)
  | 0, t, ht => by
    have hN : S.Nodup := hS.imp fun h e => by subst e; exact Lt.irrefl h
    rw [row_length_zero] at ht
    have e : sm (fun s => 2 ^ (0 + 1 - lenR k S 0 t s)) S = sm (fun s => 2 ^ (0 + 1 - lenR k S 0 t s)) (S.take t) + sm (fun s => 2 ^ (0 + 1 - lenR k S 0 t s)) (S.drop t) := by rw [← sm_append, List.take_append_drop]
    have e1 : sm (fun s => 2 ^ (0 + 1 - lenR k S 0 t s)) (S.take t) = sm (fun _ => 1) (S.take t) := sm_congr fun s hs => by
      rw [lenR, nl_row0 t ht, if_pos hs]
    have e2 : sm (fun s => 2 ^ (0 + 1 - lenR k S 0 t s)) (S.drop t) = sm (fun _ => 2) (S.drop t) := sm_congr fun s hs => by
      rw [lenR, nl_row0 t ht, if_neg]
      intro hs'
      have := List.nodup_append.1 (by rw [List.take_append_drop]; exact hN : (S.take t ++ S.drop t).Nodup)
      exact this.2.2 s hs' s hs rfl
    rw [e, e1, e2, sm_const, sm_const, List.length_take, List.length_drop, Nat.min_eq_left ht]
    omega
  | r + 1, t, ht => by
    have hN : S.Nodup := hS.imp fun h e => by subst e; exact Lt.irrefl h
    obtain ⟨h1, h2⟩ := nl_mono hS r t ht
    have ih := weigh hS r _ h1
    obtain ⟨n', q, g1, g2, g3, g4, _⟩ := row_take r t ht
    have e0 : ∀ s, lenR k S (r + 1) t s = (if s ∈ S.take n' then 1 else 0) + lenR k S r (2 * q) s := fun s => by rw [lenR, g4, show t - n' = q by omega]
    rw [g4, show t - n' = q by omega] at h1 h2 ih
    have e : sm (fun s => 2 ^ (r + 1 + 1 - lenR k S (r + 1) t s)) S = sm (fun s => 2 ^ (r + 1 - lenR k S r (2 * q) s)) (S.take n') + sm (fun s => 2 ^ (r + 1 - lenR k S r (2 * q) s) + 2 ^ (r + 1)) (S.drop n') := by
      rw [← List.take_append_drop n' S, sm_append, List.take_append_drop]
      congr 1
      · refine sm_congr fun s hs => ?_
        rw [e0, if_pos hs]
        congr 1
        omega
      · refine sm_congr fun s hs => ?_
        have hs' : s ∉ S.take n' := by
          intro hs'
          have := List.nodup_append.1 (by rw [List.take_append_drop]; exact hN : (S.take n' ++ S.drop n').Nodup)
          exact this.2.2 s hs' s hs rfl
        rw [e0, if_neg hs', lenR_zero hS hs' r (2 * q) h1 h2]
        simp only [Nat.add_zero, Nat.sub_zero]
        rw [Nat.pow_succ 2 (r + 1)]
        omega
    rw [e, sm_add, sm_const, List.length_drop, ← Nat.add_assoc, ← sm_append, List.take_append_drop]
    have e5 : 2 ^ (r + 1) * t = n' * 2 ^ (r + 1) + 2 ^ r * (2 * q) := by
      rw [← g1, Nat.mul_add, Nat.mul_comm _ n', ← Nat.mul_assoc, ← Nat.pow_succ]
    have e6 : (S.length - n') * 2 ^ (r + 1) + n' * 2 ^ (r + 1) = S.length * 2 ^ (r + 1) := by
      rw [← Nat.add_mul, Nat.sub_add_cancel g2]
    have e7 : S.length * 2 ^ (r + 1 + 1) = S.length * 2 ^ (r + 1) + S.length * 2 ^ (r + 1) := by
      rw [Nat.pow_succ 2 (r + 1), ← Nat.mul_assoc]; omega
    omega
/-- The lengths are full. -/
theorem full (hS : S.Pairwise (Lt k)) (hn : 2 ≤ S.length) {limit : Nat} (hl : 1 ≤ limit) (h : S.length ≤ 2 ^ limit) :
    sm (fun s => 2 ^ (limit - lenR k S (limit - 1) (2 * S.length - 2) s)) S = 2 ^ limit ∧ ∀ s ∈ S, 1 ≤ lenR k S (limit - 1) (2 * S.length - 2) s := by
  have ht := row_long (k := k) hl (by omega) h
  have hw := weigh hS (limit - 1) _ ht
  rw [show limit - 1 + 1 = limit by omega] at hw
  have e3 : 2 ^ (limit - 1) * (2 * S.length - 2) + 2 ^ limit = S.length * 2 ^ limit := by
    obtain ⟨m, rfl⟩ : ∃ m, limit = m + 1 := ⟨limit - 1, by omega⟩
    obtain ⟨n, hn'⟩ : ∃ n, S.length = n + 1 := ⟨S.length - 1, by omega⟩
    rw [hn', Nat.add_sub_cancel, show 2 * (n + 1) - 2 = 2 * n by omega, Nat.pow_succ, Nat.add_mul, Nat.one_mul, ← Nat.mul_assoc, Nat.mul_comm n]
  have hsum : sm (fun s => 2 ^ (limit - lenR k S (limit - 1) (2 * S.length - 2) s)) S = 2 ^ limit := by omega
  refine ⟨hsum, fun s hs => ?_⟩
  rcases Nat.eq_zero_or_pos (lenR k S (limit - 1) (2 * S.length - 2) s) with h0 | h0
  · exfalso
    obtain ⟨a, b, hab⟩ := List.append_of_mem hs
    have e4 : sm (fun s => 2 ^ (limit - lenR k S (limit - 1) (2 * S.length - 2) s)) S = sm (fun s => 2 ^ (limit - lenR k S (limit - 1) (2 * S.length - 2) s)) (a ++ s :: b) := congrArg _ hab
    rw [hsum, sm_append, sm, h0] at e4
    have e5 : ∀ T : List Nat, T.length ≤ sm (fun s => 2 ^ (limit - lenR k S (limit - 1) (2 * S.length - 2) s)) T := fun T => by
      have := sm_le (f := fun _ => 1) (g := fun s => 2 ^ (limit - lenR k S (limit - 1) (2 * S.length - 2) s)) (l := T) fun s _ => Nat.two_pow_pos _
      rw [sm_const] at this
      omega
    have h1 := e5 a
    have h2 := e5 b
    have h3 : S.length = a.length + (b.length + 1) := by rw [hab, List.length_append, List.length_cons]
    simp only [Nat.sub_zero] at e4
    omega
  · exact h0
/-- What is ahead has no shorter word. -/
theorem lenR_rare (hS : S.Pairwise (Lt k)) {a b : Nat} (ha : a ∈ S) (h : Lt k a b) : ∀ r t, lenR k S r t b ≤ lenR k S r t a := by
  have key : ∀ m, b ∈ S.take m → a ∈ S.take m := by
    intro m hb
    rw [← List.take_append_drop m S] at ha hS
    rcases List.mem_append.1 ha with h' | h'
    · exact h'
    · exact absurd ((List.pairwise_append.1 hS).2.2 b hb a h' |>.trans h) Lt.irrefl
  intro r
  induction r with
  | zero =>
    intro t
    rw [lenR, lenR]
    by_cases e : b ∈ S.take (nl (rowN (lv k S) 0) t)
    · rw [if_pos e, if_pos (key _ e)]; exact Nat.le_refl _
    · rw [if_neg e]; omega
  | succ r ih =>
    intro t
    rw [lenR, lenR]
    have := ih (2 * (t - nl (rowN (lv k S) (r + 1)) t))
    by_cases e : b ∈ S.take (nl (rowN (lv k S) (r + 1)) t)
    · rw [if_pos e, if_pos (key _ e)]; omega
    · rw [if_neg e]; omega
theorem lenR_out (r t s : Nat) (hs : s ∉ S) : lenR k S r t s = 0 := by
  induction r generalizing t with
  | zero => rw [lenR, if_neg fun h => hs (List.mem_of_mem_take h)]
  | succ r ih => rw [lenR, if_neg fun h => hs (List.mem_of_mem_take h), ih]
end
end Go.Proofs.YtidclmmnfienlaaGreatDoor.Lens

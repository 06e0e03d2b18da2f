/-
  Plain: numbers by place: exchanges, rotations, two sorted parts merged in place.
  The walks of slices' exchanges and rotations of a row of numbers.
-/
import Derived.Test.YtidclmmnfienlaaGreatDoorOwnBase
import Derived.Test.YtidclmmnfienlaaGreatDoorProg
import Derived.BigRegion
import Derived.BigQuiet
import Derived.BigGuardPart
import Derived.Deep.QuietTactic
import Derived.Deep.Light
import Derived.Deep.LoopGhost
import Derived.Deep.DeepCutAuto
import Derived.IntWalk

namespace Go.Proofs.YtidclmmnfienlaaGreatDoor.Srt

/-- The numbers at places a to b. -/
def seg (f : Nat → Nat) (a b : Nat) : List Nat := (List.range' a (b - a)).map f
theorem seg_length (f : Nat → Nat) (a b : Nat) : (seg f a b).length = b - a := by simp [seg]
theorem seg_get (f : Nat → Nat) (a b i : Nat) (h : i < (seg f a b).length) : (seg f a b)[i] = f (a + i) := by simp [seg]
theorem seg_congr {f g : Nat → Nat} {a b : Nat} (h : ∀ i, a ≤ i → i < b → f i = g i) : seg f a b = seg g a b := by
  refine List.ext_getElem (by rw [seg_length, seg_length]) fun i h1 h2 => ?_
  rw [seg_length] at h1
  rw [seg_get, seg_get]
  exact h _ (by omega) (by omega)
theorem seg_shift {f g : Nat → Nat} {a b a' b' : Nat} (hd : b - a = b' - a') (h : ∀ i, i < b - a → f (a + i) = g (a' + i)) : seg f a b = seg g a' b' := by
  refine List.ext_getElem (by rw [seg_length, seg_length, hd]) fun i h1 h2 => ?_
  rw [seg_length] at h1
  rw [seg_get, seg_get]
  exact h _ h1
theorem seg_append (f : Nat → Nat) {a m b : Nat} (h1 : a ≤ m) (h2 : m ≤ b) : seg f a b = seg f a m ++ seg f m b := by
  refine List.ext_getElem (by rw [List.length_append, seg_length, seg_length, seg_length]; omega) fun i h3 h4 => ?_
  rw [seg_get]
  rw [seg_length] at h3
  by_cases hi : i < m - a
  · rw [List.getElem_append_left (by rw [seg_length]; omega), seg_get]
  · rw [List.getElem_append_right (by rw [seg_length]; omega), seg_get, seg_length]
    congr 1; omega
theorem seg_mem {f : Nat → Nat} {a b x : Nat} : x ∈ seg f a b ↔ ∃ i, a ≤ i ∧ i < b ∧ f i = x := by
  unfold seg
  rw [List.mem_map]
  constructor
  · rintro ⟨i, hi, rfl⟩
    rw [List.mem_range'_1] at hi
    exact ⟨i, hi.1, by omega, rfl⟩
  · rintro ⟨i, h1, h2, rfl⟩
    exact ⟨i, List.mem_range'_1.2 ⟨h1, by omega⟩, rfl⟩
theorem seg_nil (f : Nat → Nat) {a b : Nat} (h : b ≤ a) : seg f a b = [] := List.eq_nil_of_length_eq_zero (by rw [seg_length]; omega)

/-- Two exchanged; rows of n exchanged; two neighbouring rows exchanged. -/
def swp (f : Nat → Nat) (p q : Nat) (i : Nat) : Nat := if i = p then f q else if i = q then f p else f i
def swr (f : Nat → Nat) (a b n : Nat) (i : Nat) : Nat := if a ≤ i ∧ i < a + n then f (b + (i - a)) else if b ≤ i ∧ i < b + n then f (a + (i - b)) else f i
def rot (f : Nat → Nat) (a m b : Nat) (i : Nat) : Nat := if a ≤ i ∧ i < a + (b - m) then f (i + (m - a)) else if a + (b - m) ≤ i ∧ i < b then f (i - (b - m)) else f i

theorem swr_zero (f : Nat → Nat) (a b : Nat) : swr f a b 0 = f := by
  funext i; unfold swr; rw [if_neg (by omega), if_neg (by omega)]
theorem swr_step (f : Nat → Nat) (a b n : Nat) (h : a + n < b) : swp (swr f a b n) (a + n) (b + n) = swr f a b (n + 1) := by
  funext i
  unfold swp swr
  repeat' split
  all_goals first | rfl | (exfalso; omega) | (congr 1; omega)
theorem rot_gt (f : Nat → Nat) (a i j : Nat) (h : j < i) : rot f a (a + i) (a + i + j) = rot (swr f a (a + i) j) (a + j) (a + i) (a + i + j) := by
  funext x
  unfold rot swr
  repeat' split
  all_goals first | rfl | (exfalso; omega) | (congr 1; omega)
theorem rot_lt (f : Nat → Nat) (a i j : Nat) (h : i < j) : rot f a (a + i) (a + i + j) = rot (swr f a (a + j) i) a (a + i) (a + j) := by
  funext x
  unfold rot swr
  repeat' split
  all_goals first | rfl | (exfalso; omega) | (congr 1; omega)
theorem rot_eq (f : Nat → Nat) (a i : Nat) : rot f a (a + i) (a + i + i) = swr f a (a + i) i := by
  funext x
  unfold rot swr
  repeat' split
  all_goals first | rfl | (exfalso; omega) | (congr 1; omega)
theorem rot_id (f : Nat → Nat) {a m b : Nat} (ha : a ≤ m) (hb : m ≤ b) (h : a = m ∨ m = b) : rot f a m b = f := by
  funext x
  unfold rot
  repeat' split
  all_goals first | rfl | (exfalso; omega) | (congr 1; omega)
/-- A number goes up by one place, or down by one. -/
theorem rot_up (f : Nat → Nat) (a t : Nat) : swp (rot f a (a + 1) (a + 1 + t)) (a + t) (a + t + 1) = rot f a (a + 1) (a + 1 + (t + 1)) := by
  funext x
  unfold swp rot
  repeat' split
  all_goals first | rfl | (exfalso; omega) | (congr 1; omega)
theorem rot_down (f : Nat → Nat) (m j : Nat) (h : j < m) : swp (rot f (j + 1) m (m + 1)) (j + 1) j = rot f j m (m + 1) := by
  funext x
  unfold swp rot
  repeat' split
  all_goals first | rfl | (exfalso; omega) | (congr 1; omega)
theorem rot_ahead (f : Nat → Nat) {a m b i : Nat} (h : i < a) : rot f a m b i = f i := by
  unfold rot; rw [if_neg (by omega), if_neg (by omega)]
theorem rot_first (f : Nat → Nat) {a m b i : Nat} (h1 : a ≤ i) (h2 : i < a + (b - m)) : rot f a m b i = f (i + (m - a)) := by
  unfold rot; rw [if_pos ⟨h1, h2⟩]
theorem rot_second (f : Nat → Nat) {a m b i : Nat} (h1 : a + (b - m) ≤ i) (h2 : i < b) : rot f a m b i = f (i - (b - m)) := by
  unfold rot; rw [if_neg (by omega), if_pos ⟨h1, h2⟩]
theorem rot_behind (f : Nat → Nat) {a m b i : Nat} (ha : a ≤ m) (hm : m ≤ b) (h : b ≤ i) : rot f a m b i = f i := by
  unfold rot; rw [if_neg (by omega), if_neg (by omega)]
theorem rot_perm (f : Nat → Nat) {a m b : Nat} (ha : a ≤ m) (hm : m ≤ b) : (seg (rot f a m b) a b).Perm (seg f a b) := by
  rw [seg_append (rot f a m b) (m := a + (b - m)) (by omega) (by omega), seg_append f ha hm]
  rw [seg_shift (f := rot f a m b) (g := f) (a := a) (b := a + (b - m)) (a' := m) (b' := b) (by omega) (fun i hi => by
    rw [rot_first f (by omega) (by omega)]; congr 1; omega)]
  rw [seg_shift (f := rot f a m b) (g := f) (a := a + (b - m)) (b := b) (a' := a) (b' := m) (by omega) (fun i hi => by
    rw [rot_second f (by omega) (by omega)]; congr 1; omega)]
  exact List.perm_append_comm

section
variable (k : Nat → Nat)
/-- What is ahead of what: by how often, then by the number itself. -/
def Lt (x y : Nat) : Prop := k x < k y ∨ (k x = k y ∧ x < y)
def Sor (f : Nat → Nat) (a b : Nat) : Prop := ∀ i j, a ≤ i → i < j → j < b → Lt k (f i) (f j)
def Low (f : Nat → Nat) (a m b : Nat) : Prop := ∀ i j, a ≤ i → i < m → m ≤ j → j < b → f i < f j
def Crs (f : Nat → Nat) (a m e b : Nat) : Prop := ∀ i j, a ≤ i → i < m → e ≤ j → j < b → Lt k (f i) (f j)
/-- f' is f, sorted from a to b. -/
def Mer (f f' : Nat → Nat) (a b : Nat) : Prop := Sor k f' a b ∧ (seg f' a b).Perm (seg f a b) ∧ ∀ i, (i < a ∨ b ≤ i) → f' i = f i
end
variable {k : Nat → Nat}
theorem Lt.trans {x y z : Nat} (h1 : Lt k x y) (h2 : Lt k y z) : Lt k x z := by
  unfold Lt at *; omega
theorem Sor.le {f : Nat → Nat} {a b i j : Nat} (h : Sor k f a b) (hi : a ≤ i) (hij : i ≤ j) (hj : j < b) : f i = f j ∨ Lt k (f i) (f j) := by
  rcases Nat.eq_or_lt_of_le hij with e | e
  · exact .inl (by rw [e])
  · exact .inr (h i j hi e hj)
theorem Mer.refl {f : Nat → Nat} {a b : Nat} (h : Sor k f a b) : Mer k f f a b := ⟨h, List.Perm.refl _, fun _ _ => rfl⟩
theorem Sor.few {f : Nat → Nat} {a b : Nat} (h : b ≤ a + 1) : Sor k f a b := fun i j _ _ _ => by omega
theorem Sor.sub {f : Nat → Nat} {a b a' b' : Nat} (h : Sor k f a b) (h1 : a ≤ a') (h2 : b' ≤ b) : Sor k f a' b' := fun i j hi hij hj => h i j (by omega) hij (by omega)
theorem Sor.congr {f g : Nat → Nat} {a b : Nat} (h : Sor k f a b) (he : ∀ i, a ≤ i → i < b → g i = f i) : Sor k g a b := fun i j hi hij hj => by
  rw [he i hi (by omega), he j (by omega) hj]; exact h i j hi hij hj
theorem Sor.join {f : Nat → Nat} {a m b : Nat} (h1 : Sor k f a m) (h2 : Sor k f m b) (h3 : Crs k f a m m b) : Sor k f a b := fun i j hi hij hj => by
  by_cases e : j < m
  · exact h1 i j hi hij e
  · by_cases e' : i < m
    · exact h3 i j hi e' (by omega) hj
    · exact h2 i j (by omega) hij hj
theorem Mer.mem {f f' : Nat → Nat} {a b i : Nat} (h : Mer k f f' a b) (h1 : a ≤ i) (h2 : i < b) : ∃ i', a ≤ i' ∧ i' < b ∧ f i' = f' i :=
  seg_mem.1 (h.2.1.mem_iff.1 (seg_mem.2 ⟨i, h1, h2, rfl⟩))
theorem Mer.join {f g h : Nat → Nat} {a m b : Nat} (ham : a ≤ m) (hmb : m ≤ b) (h1 : Mer k f g a m) (h2 : Mer k g h m b) (hc : Crs k f a m m b) : Mer k f h a b := by
  refine ⟨Sor.join (m := m) (h1.1.congr fun i _ hi => h2.2.2 i (by omega)) h2.1 fun i j hi him hj hjb => ?_, ?_, fun i hi => ?_⟩
  · rw [h2.2.2 i (by omega)]
    obtain ⟨i', a1, a2, a3⟩ := h1.mem hi him
    obtain ⟨j', b1, b2, b3⟩ := h2.mem hj hjb
    rw [← a3, ← b3, h1.2.2 j' (by omega)]
    exact hc i' j' a1 a2 b1 b2
  · rw [seg_append h ham hmb, seg_append f ham hmb]
    refine List.Perm.append ?_ ?_
    · rw [seg_congr (fun i _ hi => h2.2.2 i (by omega))]; exact h1.2.1
    · refine h2.2.1.trans ?_
      rw [seg_congr (fun i hi _ => h1.2.2 i (by omega))]
  · rw [h2.2.2 i (by omega), h1.2.2 i (by omega)]
theorem Mer.trans {f g h : Nat → Nat} {a b : Nat} (hp : (seg g a b).Perm (seg f a b)) (ho : ∀ i, (i < a ∨ b ≤ i) → g i = f i) (h2 : Mer k g h a b) : Mer k f h a b :=
  ⟨h2.1, h2.2.1.trans hp, fun i hi => (h2.2.2 i hi).trans (ho i hi)⟩

/-- What a rotation in the middle of two sorted parts leaves. -/
theorem split {f : Nat → Nat} {a s m e b : Nat} (h1 : a ≤ s) (h2 : s ≤ m) (h3 : m ≤ e) (h4 : e ≤ b) (hl : Sor k f a m) (hr : Sor k f m b) (hlow : Low f a m b)
    (c1 : Crs k f a s e b) (c2 : ∀ i j, m ≤ i → i < e → s ≤ j → j < m → Lt k (f i) (f j)) :
    (seg (rot f s m e) a b).Perm (seg f a b) ∧ (∀ i, (i < a ∨ b ≤ i) → rot f s m e i = f i) ∧
    Sor k (rot f s m e) a s ∧ Sor k (rot f s m e) s (s + (e - m)) ∧ Low (rot f s m e) a s (s + (e - m)) ∧
    Sor k (rot f s m e) (s + (e - m)) e ∧ Sor k (rot f s m e) e b ∧ Low (rot f s m e) (s + (e - m)) e b ∧ Crs k (rot f s m e) a (s + (e - m)) (s + (e - m)) b := by
  have p1 : ∀ i, i < s → rot f s m e i = f i := fun i hi => rot_ahead f hi
  have p2 : ∀ i, s ≤ i → i < s + (e - m) → rot f s m e i = f (i + (m - s)) := fun i hi hi' => rot_first f hi hi'
  have p3 : ∀ i, s + (e - m) ≤ i → i < e → rot f s m e i = f (i - (e - m)) := fun i hi hi' => rot_second f hi hi'
  have p4 : ∀ i, e ≤ i → rot f s m e i = f i := fun i hi => rot_behind f h2 h3 hi
  refine ⟨?_, fun i hi => ?_, ?_, ?_, ?_, ?_, ?_, ?_, ?_⟩
  · rw [seg_append (rot f s m e) h1 (by omega : s ≤ b), seg_append (rot f s m e) (by omega : s ≤ e) h4, seg_append f h1 (by omega : s ≤ b), seg_append f (by omega : s ≤ e) h4]
    refine List.Perm.append ?_ (List.Perm.append (rot_perm f h2 h3) ?_)
    · rw [seg_congr (fun i _ hi => p1 i hi)]
    · rw [seg_congr (fun i hi _ => p4 i hi)]
  · rcases hi with hi | hi
    · exact p1 i (by omega)
    · exact p4 i (by omega)
  · exact (hl.sub (Nat.le_refl a) h2).congr fun i _ hi => p1 i hi
  · intro i j hi hij hj
    rw [p2 i hi (by omega), p2 j (by omega) hj]
    exact hr _ _ (by omega) (by omega) (by omega)
  · intro i j hi hi' hj hj'
    rw [p1 i hi', p2 j hj hj']
    exact hlow _ _ hi (by omega) (by omega) (by omega)
  · intro i j hi hij hj
    rw [p3 i hi (by omega), p3 j (by omega) hj]
    exact hl _ _ (by omega) (by omega) (by omega)
  · intro i j hi hij hj
    rw [p4 i hi, p4 j (by omega)]
    exact hr _ _ (by omega) hij hj
  · intro i j hi hi' hj hj'
    rw [p3 i hi hi', p4 j hj]
    exact hlow _ _ (by omega) (by omega) (by omega) hj'
  · intro i j hi hi' hj hj'
    by_cases x1 : i < s
    · rw [p1 i x1]
      by_cases x2 : j < e
      · rw [p3 j hj x2]
        exact hl _ _ hi (by omega) (by omega)
      · rw [p4 j (by omega)]
        exact c1 _ _ hi x1 (by omega) hj'
    · rw [p2 i (by omega) hi']
      by_cases x2 : j < e
      · rw [p3 j hj x2]
        exact c2 _ _ (by omega) (by omega) (by omega) (by omega)
      · rw [p4 j (by omega)]
        exact hr _ _ (by omega) (by omega) (by omega)

theorem cross_left {f : Nat → Nat} {a s m e b : Nat} (h2 : s ≤ m) (h3 : m ≤ e) (hl : Sor k f a m) (hr : Sor k f m b) (hlow : Low f a m b)
    (h : s = a ∨ e = b ∨ (a < s ∧ e < b ∧ k (f (s - 1)) ≤ k (f e))) : Crs k f a s e b := by
  intro i j hi hi' hj hj'
  rcases h with h | h | ⟨x1, x2, x3⟩
  · omega
  · omega
  · have y1 := hl.le hi (by omega : i ≤ s - 1) (by omega)
    have y2 := hr.le h3 hj hj'
    have y3 : Lt k (f (s - 1)) (f e) := by
      have := hlow (s - 1) e (by omega) (by omega) h3 x2
      unfold Lt; omega
    rcases y1 with y1 | y1
    · rw [y1]
      rcases y2 with y2 | y2
      · rw [← y2]; exact y3
      · exact y3.trans y2
    · rcases y2 with y2 | y2
      · rw [← y2]; exact y1.trans y3
      · exact (y1.trans y3).trans y2
theorem cross_right {f : Nat → Nat} {a s m e b : Nat} (h1 : a ≤ s) (h4 : e ≤ b) (hl : Sor k f a m) (hr : Sor k f m b)
    (h : s = m ∨ e = m ∨ (s < m ∧ m < e ∧ k (f (e - 1)) < k (f s))) : ∀ i j, m ≤ i → i < e → s ≤ j → j < m → Lt k (f i) (f j) := by
  intro i j hi hi' hj hj'
  rcases h with h | h | ⟨x1, x2, x3⟩
  · omega
  · omega
  · have y1 := hr.le hi (by omega : i ≤ e - 1) (by omega)
    have y2 := hl.le h1 hj hj'
    have y3 : Lt k (f (e - 1)) (f s) := .inl x3
    rcases y1 with y1 | y1
    · rw [y1]
      rcases y2 with y2 | y2
      · rw [← y2]; exact y3
      · exact y3.trans y2
    · rcases y2 with y2 | y2
      · rw [← y2]; exact y1.trans y3
      · exact (y1.trans y3).trans y2

/-- One number behind a sorted part is put in. -/
theorem put_last {f : Nat → Nat} {a s m : Nat} (h1 : a ≤ s) (h2 : s ≤ m) (hl : Sor k f a m) (hlow : Low f a m (m + 1)) (g1 : s = a ∨ k (f (s - 1)) ≤ k (f m)) (g2 : s = m ∨ k (f m) < k (f s)) :
    Mer k f (rot f s m (m + 1)) a (m + 1) := by
  have c1 : Crs k f a s (m + 1) (m + 1) := fun i j _ _ _ _ => by omega
  have c2 := cross_right (k := k) (f := f) (a := a) (s := s) (m := m) (e := m + 1) (b := m + 1) h1 (Nat.le_refl _) hl (Sor.few (by omega)) (by
    rcases g2 with g2 | g2
    · exact .inl g2
    · by_cases e : s = m
      · exact .inl e
      · exact .inr (.inr ⟨by omega, by omega, by simpa using g2⟩))
  obtain ⟨hp, ho, s1, s2, l1, s3, s4, l2, hc⟩ := split h1 h2 (by omega : m ≤ m + 1) (Nat.le_refl _) hl (Sor.few (by omega)) hlow c1 c2
  refine ⟨?_, hp, ho⟩
  rw [show s + (m + 1 - m) = s + 1 by omega] at *
  refine Sor.join (m := s + 1) (Sor.join s1 s2 fun i j hi hi' hj hj' => ?_) s3 hc
  obtain rfl : j = s := by omega
  rw [rot_ahead f hi', rot_first f (Nat.le_refl _) (by omega), show j + (m - j) = m by omega]
  rcases g1 with g1 | g1
  · omega
  · have y1 := hl.le hi (by omega : i ≤ j - 1) (by omega)
    have y2 := hlow (j - 1) m (by omega) (by omega) (Nat.le_refl _) (by omega)
    have y3 : Lt k (f (j - 1)) (f m) := by unfold Lt; omega
    rcases y1 with y1 | y1
    · rw [y1]; exact y3
    · exact y1.trans y3
/-- One number ahead of a sorted part is put in. -/
theorem put_first {f : Nat → Nat} {a e b : Nat} (h3 : a + 1 ≤ e) (h4 : e ≤ b) (hr : Sor k f (a + 1) b) (hlow : Low f a (a + 1) b) (g1 : e = b ∨ k (f a) ≤ k (f e)) (g2 : e = a + 1 ∨ k (f (e - 1)) < k (f a)) :
    Mer k f (rot f a (a + 1) e) a b := by
  have c1 : Crs k f a a e b := fun i j _ _ _ _ => by omega
  have c2 := cross_right (k := k) (f := f) (a := a) (s := a) (m := a + 1) (e := e) (b := b) (Nat.le_refl _) h4 (Sor.few (by omega)) hr (by
    rcases g2 with g2 | g2
    · exact .inr (.inl g2)
    · by_cases e' : e = a + 1
      · exact .inr (.inl e')
      · exact .inr (.inr ⟨by omega, by omega, g2⟩))
  obtain ⟨hp, ho, s1, s2, l1, s3, s4, l2, hc⟩ := split (Nat.le_refl a) (by omega : a ≤ a + 1) h3 h4 (Sor.few (by omega)) hr hlow c1 c2
  refine ⟨?_, hp, ho⟩
  rw [show a + (e - (a + 1)) = e - 1 by omega] at *
  refine Sor.join (m := e - 1) s2 (Sor.join (m := e) s3 s4 fun i j hi hi' hj hj' => ?_) hc
  obtain rfl : i = e - 1 := by omega
  rw [rot_behind f (by omega) h3 hj, rot_second f (by omega) hi', show e - 1 - (e - (a + 1)) = a by omega]
  rcases g1 with g1 | g1
  · omega
  · have y1 := hr.le (by omega) hj hj'
    have y2 := hlow a e (Nat.le_refl _) (by omega) (by omega) (by omega)
    have y3 : Lt k (f a) (f e) := by unfold Lt; omega
    rcases y1 with y1 | y1
    · rw [← y1]; exact y3
    · exact y3.trans y1
/-- Two sorted parts: rotated in the middle, and each half merged. -/
theorem mer_halves {f g h : Nat → Nat} {a s m e b : Nat} (h1 : a ≤ s) (h2 : s ≤ m) (h3 : m ≤ e) (h4 : e ≤ b) (hl : Sor k f a m) (hr : Sor k f m b) (hlow : Low f a m b)
    (c1 : Crs k f a s e b) (c2 : ∀ i j, m ≤ i → i < e → s ≤ j → j < m → Lt k (f i) (f j))
    (m1 : Mer k (rot f s m e) g a (s + (e - m))) (m2 : Mer k g h (s + (e - m)) b) : Mer k f h a b := by
  obtain ⟨hp, ho, _, _, _, _, _, _, hc⟩ := split h1 h2 h3 h4 hl hr hlow c1 c2
  exact Mer.trans hp ho (Mer.join (by omega) (by omega) m1 m2 hc)
/-- Ascending numbers, of which those ahead of m are sorted. -/
theorem low_of_perm {f f0 : Nat → Nat} {a m b : Nat} (h0 : ∀ i j, a ≤ i → i < j → j < b → f0 i < f0 j) (h1 : (seg f a m).Perm (seg f0 a m)) (h2 : (seg f m b).Perm (seg f0 m b)) : Low f a m b := by
  intro i j hi hi' hj hj'
  obtain ⟨i', a1, a2, a3⟩ := seg_mem.1 (h1.mem_iff.1 (seg_mem.2 ⟨i, hi, hi', rfl⟩))
  obtain ⟨j', b1, b2, b3⟩ := seg_mem.1 (h2.mem_iff.1 (seg_mem.2 ⟨j, hj, hj', rfl⟩))
  rw [← a3, ← b3]
  exact h0 i' j' a1 (by omega) b2
/-- One more number of an ascending row is put in. -/
theorem ins_step {f g : Nat → Nat} {a b s m : Nat} (h0 : ∀ i j, a ≤ i → i < j → j < b → f i < f j) (hm : Mer k f g a m) (hb : m < b) (ham : a ≤ m) (h1 : a ≤ s) (h2 : s ≤ m)
    (g1 : s = a ∨ k (g (s - 1)) ≤ k (g m)) (g2 : s = m ∨ k (g m) < k (g s)) : Mer k f (rot g s m (m + 1)) a (m + 1) := by
  have hgm : g m = f m := hm.2.2 m (by omega)
  refine Mer.trans (g := g) ?_ (fun i hi => hm.2.2 i (by omega)) (put_last h1 h2 hm.1 (fun i j hi hi' hj hj' => ?_) g1 g2)
  · rw [seg_append g ham (by omega : m ≤ m + 1), seg_append f ham (by omega : m ≤ m + 1)]
    refine hm.2.1.append ?_
    rw [seg_congr (fun i hi hi' => hm.2.2 i (by omega))]
  · obtain rfl : j = m := by omega
    obtain ⟨i', a1, a2, a3⟩ := hm.mem hi hi'
    rw [← a3, hgm]
    exact h0 i' j a1 a2 hb

/-- A part that is sorted, and has what it had at first. -/
def Ok (k : Nat → Nat) (f0 f : Nat → Nat) (a b : Nat) : Prop := Sor k f a b ∧ (seg f a b).Perm (seg f0 a b)
theorem Ok.congr {f0 f g : Nat → Nat} {a b : Nat} (h : Ok k f0 f a b) (he : ∀ i, a ≤ i → i < b → g i = f i) : Ok k f0 g a b := ⟨h.1.congr he, by rw [seg_congr he]; exact h.2⟩
theorem Ok.mer {f0 f g : Nat → Nat} {a m b : Nat} (ham : a ≤ m) (hmb : m ≤ b) (h1 : Ok k f0 f a m) (h2 : Ok k f0 f m b) (hm : Mer k f g a b) : Ok k f0 g a b :=
  ⟨hm.1, hm.2.1.trans (by rw [seg_append f ham hmb, seg_append f0 ham hmb]; exact h1.2.append h2.2)⟩
theorem Ok.nil {f0 f : Nat → Nat} {a b : Nat} (h : b ≤ a) : Ok k f0 f a b := ⟨Sor.few (by omega), by rw [seg_nil f h, seg_nil f0 h]⟩
/-- Block c of s places of n. -/
def Bl (k : Nat → Nat) (f0 f : Nat → Nat) (n s c : Nat) : Prop := Ok k f0 f (min (s * c) n) (min (s * (c + 1)) n)
def Ph1 (k : Nat → Nat) (f0 f : Nat → Nat) (n c : Nat) : Prop := (∀ c', c' < c → Bl k f0 f n 20 c') ∧ ∀ i, 20 * c ≤ i → f i = f0 i
def Ph2 (k : Nat → Nat) (f0 f : Nat → Nat) (n s c : Nat) : Prop := (∀ c', c' < c → Bl k f0 f n (2 * s) c') ∧ ∀ c', 2 * c ≤ c' → Bl k f0 f n s c'
theorem Ph1.start (f : Nat → Nat) (n : Nat) : Ph1 k f f n 0 := ⟨fun c' h => by omega, fun _ _ => rfl⟩
theorem Ph1.step {f0 f g : Nat → Nat} {n c : Nat} (h : Ph1 k f0 f n c) (hm : Mer k f g (20 * c) (20 * c + 20)) (hn : 20 * c + 20 ≤ n) : Ph1 k f0 g n (c + 1) := by
  refine ⟨fun c' hc => ?_, fun i hi => ?_⟩
  · by_cases e : c' = c
    · subst e
      unfold Bl
      rw [Nat.min_eq_left (by omega), Nat.min_eq_left (by omega)]
      refine ⟨hm.1, hm.2.1.trans ?_⟩
      rw [seg_congr (g := f0) (fun i hi _ => h.2 i hi)]
      exact List.Perm.refl _
    · exact (h.1 c' (by omega)).congr fun i _ hi => hm.2.2 i (by omega)
  · rw [hm.2.2 i (by omega), h.2 i (by omega)]
theorem Ph1.done {f0 f g : Nat → Nat} {n c : Nat} (h : Ph1 k f0 f n c) (hm : Mer k f g (20 * c) n) (hn : n < 20 * c + 20) (hc0 : 20 * c ≤ n) : Ph2 k f0 g n 20 0 := by
  refine ⟨fun c' h => by omega, fun c' _ => ?_⟩
  rcases Nat.lt_trichotomy c' c with e | e | e
  · exact (h.1 c' e).congr fun i _ hi => hm.2.2 i (by omega)
  · subst e
    unfold Bl
    rw [Nat.min_eq_left (by omega), Nat.min_eq_right (by omega)]
    refine ⟨hm.1, hm.2.1.trans ?_⟩
    rw [seg_congr (fun i hi _ => h.2 i hi)]
  · exact Ok.nil (by omega)
theorem Ph2.parts {f0 f : Nat → Nat} {n s c A b : Nat} (h0 : ∀ i j, i < j → j < n → f0 i < f0 j) (h : Ph2 k f0 f n s c) (hA : A = 2 * s * c) (hm : A + s ≤ n) (hb : b = min (A + 2 * s) n) :
    Ok k f0 f A (A + s) ∧ Ok k f0 f (A + s) b ∧ Low f A (A + s) b := by
  have e1 : s * (2 * c) = A := by rw [hA, Nat.mul_comm 2 s, Nat.mul_assoc]
  have e2 : s * (2 * c + 1) = A + s := by rw [Nat.mul_add, e1, Nat.mul_one]
  have e3 : s * (2 * c + 1 + 1) = A + 2 * s := by rw [Nat.mul_add, e2]; omega
  have x1 := h.2 (2 * c) (by omega)
  have x2 := h.2 (2 * c + 1) (by omega)
  unfold Bl at x1 x2
  rw [e1, e2, Nat.min_eq_left (by omega), Nat.min_eq_left (by omega)] at x1
  rw [e2, e3, Nat.min_eq_left (by omega), ← hb] at x2
  exact ⟨x1, x2, low_of_perm (f0 := f0) (fun i j _ hij hj => h0 i j hij (by omega)) x1.2 x2.2⟩
theorem Ph2.far {f0 f g : Nat → Nat} {n s c A b : Nat} (h : Ph2 k f0 f n s c) (hA : A = 2 * s * c) (hb : b = A + 2 * s) (ho : ∀ i, (i < A ∨ b ≤ i ∨ n ≤ i) → g i = f i) (hx : Bl k f0 g n (2 * s) c) : Ph2 k f0 g n s (c + 1) := by
  refine ⟨fun c' hc => ?_, fun c' hc => ?_⟩
  · by_cases e : c' = c
    · subst e; exact hx
    · have : 2 * s * (c' + 1) ≤ 2 * s * c := Nat.mul_le_mul_left _ (by omega)
      exact (h.1 c' (by omega)).congr fun i _ hi => ho i (by omega)
  · have e1 : s * (2 * (c + 1)) = b := by rw [hb, hA, Nat.mul_add 2 c 1, Nat.mul_add, Nat.mul_comm 2 s, Nat.mul_assoc s 2 c]
    have : s * (2 * (c + 1)) ≤ s * c' := Nat.mul_le_mul_left _ hc
    exact (h.2 c' (by omega)).congr fun i hi hi' => ho i (by omega)
theorem Ph2.step {f0 f g : Nat → Nat} {n s c A b : Nat} (h : Ph2 k f0 f n s c) (hA : A = 2 * s * c) (hb : b = A + 2 * s) (hn : b ≤ n) (h1 : Ok k f0 f A (A + s)) (h2 : Ok k f0 f (A + s) b) (hm : Mer k f g A b) : Ph2 k f0 g n s (c + 1) := by
  refine h.far hA hb (fun i hi => hm.2.2 i (by omega)) ?_
  have e3 : 2 * s * (c + 1) = b := by rw [Nat.mul_add, ← hA, hb]; omega
  unfold Bl
  rw [e3, ← hA, Nat.min_eq_left (by omega), Nat.min_eq_left hn]
  exact Ok.mer (by omega) (by omega) h1 h2 hm
theorem Ph2.last {f0 f : Nat → Nat} {n s c A b : Nat} (h : Ph2 k f0 f n s c) (hA : A = 2 * s * c) (hb : b = A + 2 * s) (hn : n < b) (hx : Ok k f0 f (min A n) n) : ∀ c', Bl k f0 f n (2 * s) c' := by
  intro c'
  have e3 : 2 * s * (c + 1) = b := by rw [Nat.mul_add, ← hA, hb]; omega
  rcases Nat.lt_trichotomy c' c with e | e | e
  · exact h.1 c' e
  · subst e
    unfold Bl
    rw [e3, ← hA, Nat.min_eq_right (show n ≤ b by omega)]
    exact hx
  · have : 2 * s * (c + 1) ≤ 2 * s * c' := Nat.mul_le_mul_left _ (by omega)
    exact Ok.nil (by omega)
theorem Ph2.last_few {f0 f : Nat → Nat} {n s c A b : Nat} (h : Ph2 k f0 f n s c) (hA : A = 2 * s * c) (hb : b = A + 2 * s) (hn : n < b) (hm : n ≤ A + s) : ∀ c', Bl k f0 f n (2 * s) c' := by
  refine h.last hA hb hn ?_
  have e1 : s * (2 * c) = A := by rw [hA, Nat.mul_comm 2 s, Nat.mul_assoc]
  have e2 : s * (2 * c + 1) = A + s := by rw [Nat.mul_add, e1, Nat.mul_one]
  have x1 := h.2 (2 * c) (by omega)
  unfold Bl at x1
  rw [e1, e2, Nat.min_eq_right hm] at x1
  exact x1
theorem Ph2.last_more {f0 f g : Nat → Nat} {n s c A b : Nat} (h : Ph2 k f0 f n s c) (hA : A = 2 * s * c) (hb : b = A + 2 * s) (hn : n < b) (hm : A + s ≤ n) (h1 : Ok k f0 f A (A + s)) (h2 : Ok k f0 f (A + s) n) (hg : Mer k f g A n) : ∀ c', Bl k f0 g n (2 * s) c' := by
  have h' : Ph2 k f0 g n s (c + 1) := by
    refine h.far hA hb (fun i hi => hg.2.2 i (by omega)) ?_
    have e3 : 2 * s * (c + 1) = b := by rw [Nat.mul_add, ← hA, hb]; omega
    unfold Bl
    rw [e3, ← hA, Nat.min_eq_left (by omega), Nat.min_eq_right (by omega)]
    exact Ok.mer (by omega) hm h1 h2 hg
  intro c'
  have e3 : 2 * s * (c + 1) = b := by rw [Nat.mul_add, ← hA, hb]; omega
  by_cases e : c' < c + 1
  · exact h'.1 c' e
  · have : 2 * s * (c + 1) ≤ 2 * s * c' := Nat.mul_le_mul_left _ (by omega)
    exact Ok.nil (by omega)
theorem Ph2.next {f0 f : Nat → Nat} {n s : Nat} (h : ∀ c', Bl k f0 f n s c') : Ph2 k f0 f n s 0 := ⟨fun c' h => by omega, fun c' _ => h c'⟩
theorem Ph2.all {f0 f : Nat → Nat} {n s : Nat} (h : Ph2 k f0 f n s 0) (hs : n ≤ s) : Ok k f0 f 0 n := by
  have x := h.2 0 (by omega)
  unfold Bl at x
  rw [Nat.mul_zero, Nat.zero_min, Nat.zero_add, Nat.mul_one, Nat.min_eq_right hs] at x
  exact x
end Go.Proofs.YtidclmmnfienlaaGreatDoor.Srt

namespace Go.Proofs.YtidclmmnfienlaaGreatDoor.Srt
open Go.RowKit Go.Proofs.YtidclmmnfienlaaGreatDoor.Mem Go.Proofs.YtidclmmnfienlaaGreatDoor.Own

/-- A block whose first n cells are the numbers f. -/
def Dat (w : World) (g n : Nat) (f : Nat → Nat) : Prop := ∃ cs : Array Value, Blk w g 3 cs ∧ n ≤ cs.size ∧ ∀ i, i < n → cs[i]? = some (.int .i64 (f i : Nat))
theorem Dat.cell {w : World} {g n i : Nat} {f : Nat → Nat} (h : Dat w g n f) (hi : i < n) : w.cell? ⟨g, i, none⟩ = some (.int .i64 (f i : Nat)) := by
  obtain ⟨cs, hb, _, hc⟩ := h
  rw [hb.cell]; exact hc i hi
theorem Dat.frozen {w : World} {g n : Nat} {f : Nat → Nat} (h : Dat w g n f) (i : Nat) : w.frozen? ⟨g, i, none⟩ = false := by
  obtain ⟨cs, hb, _, _⟩ := h
  exact hb.frozen i
theorem Dat.lt {w : World} {g n : Nat} {f : Nat → Nat} (h : Dat w g n f) : g < w.heap.size := by
  obtain ⟨cs, hb, _, _⟩ := h
  exact hb.lt
theorem Dat.drew {w : World} {g n : Nat} {f : Nat → Nat} (h : Dat w g n f) : Dat w.drew g n f := h
theorem Dat.drewN {w : World} {g n : Nat} {f : Nat → Nat} (h : Dat w g n f) (k : Nat) : Dat (w.drewN k) g n f := h
theorem Dat.congr {w : World} {g n : Nat} {f f' : Nat → Nat} (h : Dat w g n f) (he : ∀ i, i < n → f' i = f i) : Dat w g n f' := by
  obtain ⟨cs, hb, hs, hc⟩ := h
  exact ⟨cs, hb, hs, fun i hi => by rw [hc i hi, he i hi]⟩
/-- Two cells exchanged. -/
theorem Dat.swap {w : World} {g n p q : Nat} {f : Nat → Nat} (h : Dat w g n f) (hp : p < n) (hq : q < n) (hne : p ≠ q) :
    Dat ((w.setCell ⟨g, p, none⟩ (.int .i64 (f q : Nat))).setCell ⟨g, q, none⟩ (.int .i64 (f p : Nat))) g n (swp f p q) := by
  obtain ⟨cs, hb, hs, hc⟩ := h
  refine ⟨_, (hb.set p _).set q _, by simpa using hs, fun i hi => ?_⟩
  rw [Array.getElem?_setIfInBounds, Array.getElem?_setIfInBounds]
  unfold swp
  by_cases e1 : q = i
  · subst e1
    rw [if_pos rfl, if_pos (by simp; omega), if_neg (Ne.symm hne), if_pos rfl]
  · rw [if_neg e1]
    by_cases e2 : p = i
    · subst e2
      rw [if_pos rfl, if_pos (by omega), if_pos rfl]
    · rw [if_neg e2, if_neg (Ne.symm e2), if_neg (Ne.symm e1), hc i hi]

/-- What a step leaves: the row rewritten, all else as it was. -/
def Put (g n : Nat) (f : Nat → Nat) (w w' : World) : Prop := Dat w' g n f ∧ Kept (fun b => b < w.heap.size ∧ b ≠ g) w w'
theorem Put.trans {g n : Nat} {f f' : Nat → Nat} {w w1 w2 : World} (h1 : Put g n f w w1) (h2 : Put g n f' w1 w2) : Put g n f' w w2 := by
  have hz := h1.2.size
  exact ⟨h2.1, h1.2.trans ⟨h2.2.os, h2.2.tape, h2.2.output, h2.2.size, fun b hb => h2.2.block b ⟨by have := hb.1; omega, hb.2⟩⟩⟩
theorem Put.swap {g n p q : Nat} {f : Nat → Nat} {w w1 : World} (h : Put g n f w w1) (hp : p < n) (hq : q < n) (hne : p ≠ q) :
    Put g n (swp f p q) w ((w1.setCell ⟨g, p, none⟩ (.int .i64 (f q : Nat))).setCell ⟨g, q, none⟩ (.int .i64 (f p : Nat))) :=
  ⟨h.1.swap hp hq hne, (h.2.set (fun hb => hb.2 rfl) _).set (fun hb => hb.2 rfl) _⟩
theorem Put.drew {g n : Nat} {f : Nat → Nat} {w w1 : World} (h : Put g n f w w1) : Put g n f w w1.drew := ⟨h.1.drew, h.2.drew⟩
theorem Put.drewN {g n : Nat} {f : Nat → Nat} {w w1 : World} (h : Put g n f w w1) (k : Nat) : Put g n f w (w1.drewN k) := ⟨h.1.drewN k, h.2.drewN k⟩
theorem Put.refl {g n : Nat} {f : Nat → Nat} {w : World} (h : Dat w g n f) : Put g n f w w := ⟨h, Kept.refl _ _⟩

set_option maxHeartbeats 1000000 in
set_option maxRecDepth 100000 in
theorem swr_any (w : World) (g n c a b m : Nat) (f : Nat → Nat) (u : Value) (hN : n ≤ 9223372036854775807) (hab : a + m ≤ b) (hb : b + m ≤ n) (hd : Dat w g n f) :
    Calls Tryz.prog 191 #[.slice (some ⟨g, 0, none⟩) n c, .int .i64 a, .int .i64 b, .int .i64 m, u] w fun e w' => e = .returned (.tuple #[]) ∧ Put g n (swr f a b m) w w' := by
  have p0 : Put g n (swr f a b 0) w w := by rw [swr_zero]; exact Put.refl hd
  clear hd
  go_enter Tryz.func191, Tryz.ntmps191
  go_wp2_with fail
  go_loopw [10] (fun i wr => ∃ k : Nat, k ≤ m ∧ i = .int .i64 k ∧ Hid (Put g n (swr f a b k) w wr)) (fun i _ => m - (intOf i).toNat)
  case atStart => exact ⟨0, Nat.zero_le _, rfl, p0⟩
  case round =>
    clear p0
    obtain ⟨k, hk, rfl, hp⟩ := hrel
    by_cases hlt : k < m
    · have c1 := hp.out.1.cell (i := a + k) (by omega)
      have c2 := hp.out.1.cell (i := b + k) (by omega)
      have f1 := hp.out.1.frozen (a + k)
      have f2 := hp.out.1.frozen (b + k)
      have hnx := (hp.out.swap (p := a + k) (q := b + k) (by omega) (by omega) (by omega)).drew
      rw [swr_step f a b k (by omega)] at hnx
      have HNX := Lib.hid hnx
      clear hnx
      generalize swr f a b k (a + k) = v1 at *
      generalize swr f a b k (b + k) = v2 at *
      have s1 : IntKind.i64.wrap ((a : Int) + (k : Int)) = (a : Int) + (k : Int) := IntWalk.i64_in _ (by omega)
      have s2 : IntKind.i64.wrap ((b : Int) + (k : Int)) = (b : Int) + (k : Int) := IntWalk.i64_in _ (by omega)
      have x1 : (0 : Int) ≤ (a : Int) + (k : Int) := by omega
      have x2 : (0 : Int) ≤ (b : Int) + (k : Int) := by omega
      have x3 : (a : Int) + (k : Int) < (n : Int) := by omega
      have x4 : (b : Int) + (k : Int) < (n : Int) := by omega
      have x5 : ((a : Int) + (k : Int)).toNat = a + k := by omega
      have x6 : ((b : Int) + (k : Int)).toNat = b + k := by omega
      go_wp2_with fail
      go_region
      clear s1 s2 x5 x6
      go_wp2_with fail
      go_roundw
      case rel => go_light; exact ⟨k + 1, by omega, by go_num, HNX⟩
      case measure => go_light; simp [intOf]; omega
    · obtain rfl : k = m := by omega
      go_wp2_with fail
      refine bodyPost_end (results_none rfl _ _ _) rfl ⟨rfl, hp.out⟩
theorem swr_int (g n c : Nat) (u : Value) (hN : n ≤ 4611686018427387904) : ∀ (wx : World) (x y z : Int) (a b m : Nat) (f : Nat → Nat), x = a → y = b → z = m → a + m ≤ b → b + m ≤ n → Dat wx g n f →
    Calls Tryz.prog 191 #[.slice (some ⟨g, 0, none⟩) n c, .int .i64 x, .int .i64 y, .int .i64 z, u] wx fun e w' => e = .returned (.tuple #[]) ∧ Put g n (swr f a b m) wx w' := by
  intro wx x y z a b m f h1 h2 h3 h4 h5 h6
  subst h1 h2 h3
  exact swr_any wx g n c a b m f u (by omega) h4 h5 h6
def Rotd (g n : Nat) (w : World) (fin : Nat → Nat) (m i j : Nat) (wr : World) : Prop := ∃ f, Put g n f w wr ∧ rot f (m - i) m (m + j) = fin
theorem Rotd.gt {g n m i j : Nat} {w wr w1 : World} {fin f : Nat → Nat} (h : Put g n f w wr) (hr : rot f (m - i) m (m + j) = fin) (h1 : Put g n (swr f (m - i) m j) wr w1) (hij : j < i) (him : i ≤ m) : Rotd g n w fin m (i - j) j w1 := by
  refine ⟨_, h.trans h1, ?_⟩
  have := rot_gt f (m - i) i j hij
  rw [show m - i + i = m by omega, show m - i + j = m - (i - j) by omega] at this
  rw [← this, hr]
theorem Rotd.lt {g n m i j : Nat} {w wr w1 : World} {fin f : Nat → Nat} (h : Put g n f w wr) (hr : rot f (m - i) m (m + j) = fin) (h1 : Put g n (swr f (m - i) (m + j - i) i) wr w1) (hij : i < j) (him : i ≤ m) : Rotd g n w fin m i (j - i) w1 := by
  refine ⟨_, h.trans h1, ?_⟩
  have := rot_lt f (m - i) i j hij
  rw [show m - i + i = m by omega, show m - i + j = m + j - i by omega, show m + j - i = m + (j - i) by omega] at this
  rw [show m + j - i = m + (j - i) by omega, ← this, hr]
theorem Rotd.eq {g n m i : Nat} {w wr w1 : World} {fin f : Nat → Nat} (h : Put g n f w wr) (hr : rot f (m - i) m (m + i) = fin) (h1 : Put g n (swr f (m - i) m i) wr w1) (him : i ≤ m) : Put g n fin w w1 := by
  have := rot_eq f (m - i) i
  rw [show m - i + i = m by omega] at this
  rw [← hr, this]
  exact h.trans h1

set_option maxHeartbeats 1000000 in
set_option maxRecDepth 100000 in
theorem rot_any (w : World) (g n c a m b : Nat) (f : Nat → Nat) (u : Value) (hN : n ≤ 4611686018427387904) (ham : a < m) (hmb : m < b) (hb : b ≤ n) (hd : Dat w g n f) :
    Calls Tryz.prog 190 #[.slice (some ⟨g, 0, none⟩) n c, .int .i64 a, .int .i64 m, .int .i64 b, u] w fun e w' => e = .returned (.tuple #[]) ∧ Put g n (rot f a m b) w w' := by
  have p0 : Hid (Rotd g n w (rot f a m b) m (m - a) (b - m) w) := ⟨f, Put.refl hd, by rw [show m - (m - a) = a by omega, show m + (b - m) = b by omega]⟩
  generalize rot f a m b = fin at *
  have C := Lib.hid (swr_int g n c u hN)
  clear hd
  go_enter Tryz.func190, Tryz.ntmps190
  go_wp2_with fail
  go_loopw [10, 11] (fun iv jv wr => ∃ i j : Nat, 0 < i ∧ 0 < j ∧ i ≤ m ∧ m + j ≤ n ∧ iv = .int .i64 i ∧ jv = .int .i64 j ∧ Hid (Rotd g n w fin m i j wr)) (fun i j _ => (intOf i).toNat + (intOf j).toNat)
  case atStart => exact ⟨m - a, b - m, by omega, by omega, by omega, by omega, congrArg (Value.int .i64) (by omega), congrArg (Value.int .i64) (by omega), p0⟩
  case round =>
    clear p0
    obtain ⟨i, j, hi, hj, him, hjn, rfl, rfl, hp⟩ := hrel
    obtain ⟨f', hp1, hr1⟩ := hp.out
    have HR := Lib.hid hr1
    have HP := Lib.hid hp1
    clear hr1 hp hp1
    by_cases hgt : j < i
    · have b1 : ((i : Int) != (j : Int)) = true := by simp; omega
      go_wp2_with fail
      refine (C.out _ _ _ _ (m - i) m j f' (by omega) rfl rfl (by omega) (by omega) HP.out.1).mono ?_
      rintro e w1 ⟨rfl, hp2⟩
      have HN2 := Lib.hid (Rotd.gt HP.out HR.out hp2 hgt him)
      clear hp2 b1
      go_wp2_with fail
      go_roundw
      case rel => go_light; exact ⟨i - j, j, by omega, hj, by omega, hjn, congrArg (Value.int .i64) (by omega), rfl, HN2⟩
      case measure => go_light; simp [intOf]; omega
    · by_cases hlt : i < j
      · have b1 : ((i : Int) != (j : Int)) = true := by simp; omega
        go_wp2_with fail
        refine (C.out _ _ _ _ (m - i) (m + j - i) i f' (by omega) (by omega) rfl (by omega) (by omega) HP.out.1).mono ?_
        rintro e w1 ⟨rfl, hp2⟩
        have HN2 := Lib.hid (Rotd.lt HP.out HR.out hp2 hlt him)
        clear hp2 b1
        go_wp2_with fail
        go_roundw
        case rel => go_light; exact ⟨i, j - i, by omega, by omega, by omega, by omega, rfl, congrArg (Value.int .i64) (by omega), HN2⟩
        case measure => go_light; simp [intOf]; omega
      · obtain rfl : i = j := by omega
        go_wp2_with fail
        refine (C.out _ _ _ _ (m - i) m i f' (by omega) rfl rfl (by omega) (by omega) HP.out.1).mono ?_
        rintro e w1 ⟨rfl, hp2⟩
        have HN2 := Lib.hid (Rotd.eq HP.out HR.out hp2 him)
        clear hp2
        go_wp2_with fail
        refine bodyPost_end (results_none rfl _ _ _) rfl ⟨rfl, HN2.out⟩
end Go.Proofs.YtidclmmnfienlaaGreatDoor.Srt

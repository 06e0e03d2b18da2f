/-
  Bits and the bytes that hold them: the plain part.
  Words of a code and the bits that they are written with: the plain part.
  The symbols of each length, and which symbol's word bits begin with: the plain part.
-/
import Derived.Test.YtidclmmnfienlaaGreatDoorCanonBase

namespace Go.Proofs.YtidclmmnfienlaaGreatDoor.Huff

def bit (bs : List Bool) (i : Nat) : Nat := if bs.getD i false then 1 else 0
/-- The k-th byte of a row of bits: the first bit is the highest. -/
def byteAt (bs : List Bool) (k : Nat) : Nat :=
  bit bs (8 * k) * 128 + bit bs (8 * k + 1) * 64 + bit bs (8 * k + 2) * 32 + bit bs (8 * k + 3) * 16 + bit bs (8 * k + 4) * 8 + bit bs (8 * k + 5) * 4 + bit bs (8 * k + 6) * 2 + bit bs (8 * k + 7)
def bytesOf (bs : List Bool) : List Nat := (List.range ((bs.length + 7) / 8)).map (byteAt bs)

theorem bytesOf_length (bs : List Bool) : (bytesOf bs).length = (bs.length + 7) / 8 := by simp [bytesOf]
theorem bit_le (bs : List Bool) (i : Nat) : bit bs i ≤ 1 := by unfold bit; split <;> omega
theorem byteAt_le (bs : List Bool) (k : Nat) : byteAt bs k ≤ 255 := by
  unfold byteAt
  have h0 := bit_le bs (8 * k)
  have h1 := bit_le bs (8 * k + 1)
  have h2 := bit_le bs (8 * k + 2)
  have h3 := bit_le bs (8 * k + 3)
  have h4 := bit_le bs (8 * k + 4)
  have h5 := bit_le bs (8 * k + 5)
  have h6 := bit_le bs (8 * k + 6)
  have h7 := bit_le bs (8 * k + 7)
  omega
theorem bit_out {bs : List Bool} {i : Nat} (h : bs.length ≤ i) : bit bs i = 0 := by
  unfold bit
  simp [List.getD_eq_getElem?_getD, List.getElem?_eq_none h]
theorem bit_snoc_lt {bs : List Bool} {b : Bool} {i : Nat} (h : i ≠ bs.length) : bit (bs ++ [b]) i = bit bs i := by
  unfold bit
  by_cases hlt : i < bs.length
  · simp [List.getD_eq_getElem?_getD, List.getElem?_append_left hlt]
  · simp [List.getD_eq_getElem?_getD, List.getElem?_eq_none (show (bs ++ [b]).length ≤ i by simp; omega), List.getElem?_eq_none (show bs.length ≤ i by omega)]
theorem bit_snoc_eq (bs : List Bool) (b : Bool) : bit (bs ++ [b]) bs.length = if b then 1 else 0 := by
  unfold bit
  simp [List.getD_eq_getElem?_getD]
/-- One bit more turns one byte alone. -/
theorem byteAt_other {bs : List Bool} {b : Bool} {k : Nat} (h : k ≠ bs.length / 8) : byteAt (bs ++ [b]) k = byteAt bs k := by
  unfold byteAt
  rw [bit_snoc_lt (by omega), bit_snoc_lt (by omega), bit_snoc_lt (by omega), bit_snoc_lt (by omega), bit_snoc_lt (by omega), bit_snoc_lt (by omega), bit_snoc_lt (by omega), bit_snoc_lt (by omega)]
theorem byteAt_zero {bs : List Bool} {k : Nat} (h : bs.length ≤ 8 * k) : byteAt bs k = 0 := by
  unfold byteAt
  rw [bit_out (by omega), bit_out (by omega), bit_out (by omega), bit_out (by omega), bit_out (by omega), bit_out (by omega), bit_out (by omega), bit_out (by omega)]
/-- The byte that the next bit goes into: its low bits are 0. -/
theorem byteAt_low (bs : List Bool) : 2 ^ (8 - bs.length % 8) ∣ byteAt bs (bs.length / 8) := by
  obtain ⟨q, r, hr, hl⟩ : ∃ q r, r < 8 ∧ bs.length = 8 * q + r := ⟨bs.length / 8, bs.length % 8, by omega, by omega⟩
  have e1 : bs.length / 8 = q := by omega
  have e2 : bs.length % 8 = r := by omega
  rw [e1, e2]
  have ho : ∀ i, r ≤ i → bit bs (8 * q + i) = 0 := fun i hi => bit_out (by omega)
  unfold byteAt
  have h0 := ho 0
  have : r = 0 ∨ r = 1 ∨ r = 2 ∨ r = 3 ∨ r = 4 ∨ r = 5 ∨ r = 6 ∨ r = 7 := by omega
  rcases this with rfl | rfl | rfl | rfl | rfl | rfl | rfl | rfl <;>
    first
    | (simp only [ho 1 (by omega), ho 2 (by omega), ho 3 (by omega), ho 4 (by omega), ho 5 (by omega), ho 6 (by omega), ho 7 (by omega)]; have := h0 (by omega); simp at this; simp [this]; done)
    | (rw [ho 7 (by omega)]; (try rw [ho 6 (by omega)]); (try rw [ho 5 (by omega)]); (try rw [ho 4 (by omega)]); (try rw [ho 3 (by omega)]); (try rw [ho 2 (by omega)]); (try rw [ho 1 (by omega)]); omega)
theorem byteAt_snoc (bs : List Bool) (b : Bool) : byteAt (bs ++ [b]) (bs.length / 8) = byteAt bs (bs.length / 8) + (if b then 1 else 0) * 2 ^ (7 - bs.length % 8) := by
  obtain ⟨q, r, hr, hl⟩ : ∃ q r, r < 8 ∧ bs.length = 8 * q + r := ⟨bs.length / 8, bs.length % 8, by omega, by omega⟩
  have e1 : bs.length / 8 = q := by omega
  have e2 : bs.length % 8 = r := by omega
  rw [e1, e2]
  have hn : ∀ i, i ≠ r → bit (bs ++ [b]) (8 * q + i) = bit bs (8 * q + i) := fun i hi => bit_snoc_lt (by omega)
  have he : bit (bs ++ [b]) (8 * q + r) = if b then 1 else 0 := by rw [← hl]; exact bit_snoc_eq bs b
  have hz : bit bs (8 * q + r) = 0 := bit_out (by omega)
  have h0 := hn 0
  simp only [Nat.add_zero] at h0
  unfold byteAt
  generalize (if b then 1 else 0) = x at he ⊢
  have : r = 0 ∨ r = 1 ∨ r = 2 ∨ r = 3 ∨ r = 4 ∨ r = 5 ∨ r = 6 ∨ r = 7 := by omega
  rcases this with rfl | rfl | rfl | rfl | rfl | rfl | rfl | rfl <;> (try simp only [Nat.add_zero] at he hz) <;> simp only [he, hz] <;>
    (try rw [h0 (by omega)]) <;> (try rw [hn 1 (by omega)]) <;> (try rw [hn 2 (by omega)]) <;> (try rw [hn 3 (by omega)]) <;> (try rw [hn 4 (by omega)]) <;> (try rw [hn 5 (by omega)]) <;> (try rw [hn 6 (by omega)]) <;> (try rw [hn 7 (by omega)]) <;> omega
/-- 'or' into low bits that are 0 is a sum. -/
theorem or_low {x y s : Nat} (hx : 2 ^ (s + 1) ∣ x) (hy : y ≤ 1) : x ||| y * 2 ^ s = x + y * 2 ^ s := by
  obtain ⟨q, rfl⟩ := hx
  have h1 : y * 2 ^ s < 2 ^ (s + 1) := by
    rw [Nat.pow_succ]
    have h2 : 0 < 2 ^ s := Nat.two_pow_pos s
    have h3 : y * 2 ^ s ≤ 1 * 2 ^ s := Nat.mul_le_mul_right _ hy
    omega
  exact (Nat.two_pow_add_eq_or_of_lt h1 q).symm
theorem byteAt_or (bs : List Bool) (b : Bool) : byteAt bs (bs.length / 8) ||| (if b then 1 else 0) * 2 ^ (7 - bs.length % 8) = byteAt (bs ++ [b]) (bs.length / 8) := by
  rw [byteAt_snoc]
  refine or_low ?_ (by split <;> omega)
  rw [show 7 - bs.length % 8 + 1 = 8 - bs.length % 8 by omega]
  exact byteAt_low bs
/-- The bytes ahead of one more bit: a new byte 0 where the last is full. -/
def roomOf (bs : List Bool) : List Nat := if bs.length % 8 = 0 then bytesOf bs ++ [0] else bytesOf bs
theorem roomOf_eq (bs : List Bool) : roomOf bs = (List.range (bs.length / 8 + 1)).map (byteAt bs) := by
  unfold roomOf
  split
  · rename_i h
    rw [List.range_succ, List.map_append, bytesOf, show (bs.length + 7) / 8 = bs.length / 8 by omega]
    simp only [List.map_cons, List.map_nil]
    rw [byteAt_zero (k := bs.length / 8) (by omega)]
  · rw [bytesOf, show (bs.length + 7) / 8 = bs.length / 8 + 1 by omega]
theorem bytesOf_snoc (bs : List Bool) (b : Bool) : bytesOf (bs ++ [b]) = (roomOf bs).set (bs.length / 8) (byteAt (bs ++ [b]) (bs.length / 8)) := by
  rw [roomOf_eq, bytesOf, List.length_append, List.length_singleton, show (bs.length + 1 + 7) / 8 = bs.length / 8 + 1 by omega]
  apply List.ext_getElem
  · simp
  · intro i h1 h2
    rw [List.getElem_set]
    simp only [List.getElem_map, List.getElem_range]
    split
    · rename_i e; rw [e]
    · rename_i e; exact byteAt_other (fun e2 => e e2.symm)
end Go.Proofs.YtidclmmnfienlaaGreatDoor.Huff

namespace Go.Proofs.YtidclmmnfienlaaGreatDoor.Huff
open Go.Proofs.YtidclmmnfienlaaGreatDoor.Canon

/-- The first k bits of a number of n bits, the highest first. -/
def msb (x n k : Nat) : List Bool := (List.range k).map fun j => decide (x / 2 ^ (n - 1 - j) % 2 = 1)
theorem msb_length (x n k : Nat) : (msb x n k).length = k := by simp [msb]
theorem msb_zero (x n : Nat) : msb x n 0 = [] := rfl
theorem msb_succ (x n k : Nat) : msb x n (k + 1) = msb x n k ++ [decide (x / 2 ^ (n - 1 - k) % 2 = 1)] := by
  simp [msb, List.range_succ]
/-- The bits of a symbol's word. -/
def word (ls : List Nat) (s : Nat) : List Bool := msb (code ls s) (ls.getD s 0) (ls.getD s 0)
theorem word_length (ls : List Nat) (s : Nat) : (word ls s).length = ls.getD s 0 := msb_length _ _ _
/-- The bits of the first k symbols. -/
def packed (ls : List Nat) (ss : List Int) : List Bool := ss.flatMap fun s => word ls s.toNat
theorem packed_nil (ls : List Nat) : packed ls [] = [] := rfl
theorem packed_snoc (ls : List Nat) (ss : List Int) (s : Int) : packed ls (ss ++ [s]) = packed ls ss ++ word ls s.toNat := by simp [packed]
theorem packed_length (ls : List Nat) (h : ∀ x ∈ ls, x ≤ 15) : ∀ ss : List Int, (packed ls ss).length ≤ 15 * ss.length
  | [] => by simp [packed]
  | s :: ss => by
    have h1 := packed_length ls h ss
    have h2 : ls.getD s.toNat 0 ≤ 15 := by
      rw [List.getD_eq_getElem?_getD]
      by_cases k : s.toNat < ls.length
      · rw [List.getElem?_eq_getElem k, Option.getD_some]
        exact h _ (List.getElem_mem k)
      · rw [List.getElem?_eq_none (by omega)]
        simp
    unfold packed at h1 ⊢
    rw [List.flatMap_cons, List.length_append, word_length, List.length_cons]
    omega

/-- The places of a byte, one behind the other. -/
def accB (bs : List Bool) (i : Nat) : Nat → Nat
  | 0 => 0
  | m + 1 => 2 * accB bs i m + bit bs (i + m)
theorem accB_byte (bs : List Bool) (k : Nat) : accB bs (8 * k) 8 = byteAt bs k := by
  simp only [accB, byteAt]
  have e : 8 * k + 0 = 8 * k := rfl
  rw [e]
  omega
theorem accB_lt (bs : List Bool) (i : Nat) : ∀ m, accB bs i m < 2 ^ m
  | 0 => by simp [accB]
  | m + 1 => by
    have h1 := accB_lt bs i m
    have h2 := bit_le bs (i + m)
    rw [accB, Nat.pow_succ]
    omega

/-! ### The words' numbers fit -/
theorem fst_wsum (ls : List Nat) : ∀ l, l ≤ 15 → (fst ls l + cn ls l) * 2 ^ (15 - l) = wsum ls (l + 1)
  | 0, _ => by simp [fst, cn, wsum]
  | l + 1, h => by
    have h1 := fst_wsum ls l (by omega)
    have e : 15 - l = (15 - (l + 1)) + 1 := by omega
    rw [wsum, ← h1, fst, e, Nat.pow_succ, Nat.add_mul]
    congr 1
    rw [Nat.mul_comm 2, Nat.mul_assoc, Nat.mul_comm 2]
theorem fst_wsum' (ls : List Nat) (l : Nat) (h : l ≤ 15) : fst ls l * 2 ^ (15 - l) = wsum ls l := by
  have h1 := fst_wsum ls l h
  rw [wsum, Nat.add_mul] at h1
  omega
theorem wsum_mono (ls : List Nat) {a : Nat} : ∀ {b : Nat}, a ≤ b → wsum ls a ≤ wsum ls b
  | 0, h => by
    obtain rfl : a = 0 := by omega
    exact Nat.le_refl _
  | b + 1, h => by
    by_cases e : a = b + 1
    · subst e; exact Nat.le_refl _
    · have := wsum_mono ls (a := a) (b := b) (by omega)
      rw [wsum]
      omega
theorem ok_parts {ls : List Nat} (h : okB ls = true) : ls.length ≤ 300 ∧ (∀ x ∈ ls, x ≤ 15) ∧ wsum ls 16 ≤ 32768 := by
  unfold okB at h
  simp only [Bool.and_eq_true, Bool.or_eq_true, decide_eq_true_eq, List.all_eq_true] at h
  obtain ⟨⟨h1, h2⟩, h3⟩ := h
  refine ⟨h1, h2, ?_⟩
  have hk := wsum_kraft ls h2
  have hu := wnum_used ls h2
  rcases h3 with (h3 | ⟨h3, h4⟩) | h3
  · rw [h3] at hu
    simp only [wnum] at hu
    simp only [wsum]
    have e0 : cn ls 0 = 0 := by simp [cn]
    have e : ∀ l, l < 16 → cn ls l = 0 := by
      intro l hl
      have : l = 0 ∨ l = 1 ∨ l = 2 ∨ l = 3 ∨ l = 4 ∨ l = 5 ∨ l = 6 ∨ l = 7 ∨ l = 8 ∨ l = 9 ∨ l = 10 ∨ l = 11 ∨ l = 12 ∨ l = 13 ∨ l = 14 ∨ l = 15 := by omega
      rcases this with rfl | rfl | rfl | rfl | rfl | rfl | rfl | rfl | rfl | rfl | rfl | rfl | rfl | rfl | rfl | rfl <;> omega
    simp [e]
  · have e1 : cn ls 1 = 1 := by unfold cn; rw [if_neg (by omega), h4]
    rw [h3] at hu
    simp only [wnum] at hu
    simp only [wsum]
    have e : ∀ l, l < 16 → l ≠ 1 → cn ls l = 0 := by
      intro l hl hl1
      have : l = 0 ∨ l = 1 ∨ l = 2 ∨ l = 3 ∨ l = 4 ∨ l = 5 ∨ l = 6 ∨ l = 7 ∨ l = 8 ∨ l = 9 ∨ l = 10 ∨ l = 11 ∨ l = 12 ∨ l = 13 ∨ l = 14 ∨ l = 15 := by omega
      rcases this with rfl | rfl | rfl | rfl | rfl | rfl | rfl | rfl | rfl | rfl | rfl | rfl | rfl | rfl | rfl | rfl <;> omega
    simp [e, e1]
  · omega
theorem cnt_take_lt {ls : List Nat} {s x : Nat} (hx : ls[s]? = some x) : cnt (ls.take s) x + 1 ≤ cnt ls x := by
  have h1 : cnt (ls.take (s + 1)) x = cnt (ls.take s) x + 1 := by rw [take_snoc hx, cnt_snoc, if_pos rfl]
  have h2 : cnt (ls.take (s + 1)) x ≤ cnt ls x := by
    unfold cnt
    conv => rhs; rw [← List.take_append_drop (s + 1) ls, List.countP_append]
    omega
  omega
theorem code_of {ls : List Nat} {s x : Nat} (hx : ls[s]? = some x) (h0 : x ≠ 0) : code ls s = fst ls x + cnt (ls.take s) x := by
  unfold code
  simp [List.getD_eq_getElem?_getD, hx, h0]
/-- A word's place: it lies within the words of its length. -/
theorem code_in {ls : List Nat} {s x : Nat} (hx : ls[s]? = some x) (h0 : x ≠ 0) (h15 : x ≤ 15) :
    wsum ls x ≤ code ls s * 2 ^ (15 - x) ∧ (code ls s + 1) * 2 ^ (15 - x) ≤ wsum ls (x + 1) := by
  have h1 := code_of hx h0
  have h2 := cnt_take_lt hx
  constructor
  · rw [← fst_wsum' ls x h15]
    exact Nat.mul_le_mul_right _ (by omega)
  · rw [← fst_wsum ls x h15]
    refine Nat.mul_le_mul_right _ ?_
    unfold cn
    rw [if_neg h0]
    omega
theorem code_lt {ls : List Nat} (hok : okB ls = true) {s x : Nat} (hx : ls[s]? = some x) (h0 : x ≠ 0) : code ls s < 2 ^ x := by
  obtain ⟨_, h2, h3⟩ := ok_parts hok
  have h15 := h2 x (List.mem_of_getElem? hx)
  have h4 := (code_in hx h0 h15).2
  have h5 := wsum_mono ls (show x + 1 ≤ 16 by omega)
  have h6 : (code ls s + 1) * 2 ^ (15 - x) ≤ 2 ^ x * 2 ^ (15 - x) := by
    rw [← Nat.pow_add, show x + (15 - x) = 15 by omega]
    omega
  exact Nat.le_of_mul_le_mul_right h6 (Nat.two_pow_pos _)
theorem one_bit (y : Nat) : ((if decide (y % 2 = 1) = true then 1 else 0 : Nat) : Int) = ((y % 2 : Nat) : Int) := by
  rcases Nat.mod_two_eq_zero_or_one y with h | h <;> simp [h]
end Go.Proofs.YtidclmmnfienlaaGreatDoor.Huff

namespace Go.Proofs.YtidclmmnfienlaaGreatDoor.Huff
open Go.Proofs.YtidclmmnfienlaaGreatDoor.Canon

/-- The symbols whose words have l bits, rising. -/
def symsOf (ls : List Nat) (l : Nat) : List Nat := (List.range ls.length).filter fun s => decide (ls.getD s 0 = l)
theorem symsOf_nil (l : Nat) : symsOf [] l = [] := rfl
theorem symsOf_snoc (ls : List Nat) (x l : Nat) : symsOf (ls ++ [x]) l = symsOf ls l ++ if x = l then [ls.length] else [] := by
  unfold symsOf
  rw [List.length_append, List.length_singleton, List.range_succ, List.filter_append]
  congr 1
  · apply List.filter_congr
    intro s hs
    have hs := List.mem_range.1 hs
    simp [List.getD_eq_getElem?_getD, List.getElem?_append_left hs]
  · by_cases h : x = l <;> simp [List.getD_eq_getElem?_getD, h]
theorem snoc_ind {α : Type} {p : List α → Prop} (h0 : p []) (h1 : ∀ l x, p l → p (l ++ [x])) : ∀ l, p l := by
  intro l
  have : ∀ r : List α, p r.reverse := by
    intro r
    induction r with
    | nil => exact h0
    | cons x r ih => rw [List.reverse_cons]; exact h1 _ _ ih
  have h := this l.reverse
  rwa [List.reverse_reverse] at h
theorem symsOf_length (l : Nat) : ∀ ls : List Nat, (symsOf ls l).length = cnt ls l := by
  apply snoc_ind
  · rfl
  · intro ls x ih
    rw [symsOf_snoc, cnt_snoc, List.length_append, ih]
    split <;> rfl
theorem symsOf_get {l : Nat} : ∀ (ls : List Nat) (k s : Nat), (symsOf ls l)[k]? = some s → ls[s]? = some l ∧ cnt (ls.take s) l = k := by
  apply snoc_ind (p := fun ls => ∀ (k s : Nat), (symsOf ls l)[k]? = some s → ls[s]? = some l ∧ cnt (ls.take s) l = k)
  · intro k s h; simp [symsOf_nil] at h
  · intro ls x ih k s h
    rw [symsOf_snoc, List.getElem?_append] at h
    split at h
    · obtain ⟨h1, h2⟩ := ih k s h
      have hs := (List.getElem?_eq_some_iff.1 h1).1
      rw [List.getElem?_append_left hs, List.take_append_of_le_length (by omega)]
      exact ⟨h1, h2⟩
    · rename_i hk
      by_cases hx : x = l
      · subst hx
        rw [if_pos rfl] at h
        have h3 := (List.getElem?_eq_some_iff.1 h).1
        simp only [List.length_singleton] at h3
        have h4 : k = (symsOf ls x).length := by omega
        rw [h4, Nat.sub_self, List.getElem?_cons_zero] at h
        injection h with h
        subst h
        refine ⟨by simp, ?_⟩
        rw [List.take_left, h4, symsOf_length]
      · rw [if_neg hx] at h
        simp at h
theorem cnt_take_mono (ls : List Nat) (l : Nat) {a b : Nat} (h : a ≤ b) : cnt (ls.take a) l ≤ cnt (ls.take b) l := by
  have : ls.take a = (ls.take b).take a := by rw [List.take_take, Nat.min_eq_left h]
  rw [this]
  unfold cnt
  conv => rhs; rw [← List.take_append_drop a (ls.take b), List.countP_append]
  omega
/-- Two symbols of one length are one, if as many of that length stand ahead. -/
theorem nth_one {ls : List Nat} {l s t : Nat} (hs : ls[s]? = some l) (ht : ls[t]? = some l) (h : cnt (ls.take s) l = cnt (ls.take t) l) : s = t := by
  have h1 : cnt (ls.take (s + 1)) l = cnt (ls.take s) l + 1 := by rw [take_snoc hs, cnt_snoc, if_pos rfl]
  have h2 : cnt (ls.take (t + 1)) l = cnt (ls.take t) l + 1 := by rw [take_snoc ht, cnt_snoc, if_pos rfl]
  by_cases h3 : s < t
  · have := cnt_take_mono ls l (show s + 1 ≤ t by omega); omega
  · by_cases h4 : t < s
    · have := cnt_take_mono ls l (show t + 1 ≤ s by omega); omega
    · omega
/-- The k-th symbol of a length is there. -/
theorem nth_there {ls : List Nat} {l k : Nat} (h : k < cnt ls l) : ∃ s, (symsOf ls l)[k]? = some s ∧ ls[s]? = some l ∧ cnt (ls.take s) l = k := by
  have h1 : k < (symsOf ls l).length := by rw [symsOf_length]; exact h
  exact ⟨_, List.getElem?_eq_getElem h1, symsOf_get ls k _ (List.getElem?_eq_getElem h1)⟩

/-- Does symbol s stand at the head of 15 bits X, of which just so many are there? -/
def hit (ls : List Nat) (X there s : Nat) : Bool := decide (ls.getD s 0 ≠ 0 ∧ ls.getD s 0 ≤ there ∧ X / 2 ^ (15 - ls.getD s 0) = code ls s)
/-- Do the bits that are there begin the word of symbol s? -/
def begin_ (ls : List Nat) (X there s : Nat) : Bool := decide (there < ls.getD s 0 ∧ X / 2 ^ (15 - there) = code ls s / 2 ^ (ls.getD s 0 - there))
/-- The symbol or -1, the error, and how many bits are read. -/
def getR (ls : List Nat) (X there : Nat) : Int × Int × Nat :=
  match (List.range ls.length).find? (hit ls X there) with
  | some s => (s, 0, ls.getD s 0)
  | none => if (List.range ls.length).any (begin_ ls X there) then (-1, 1, 0) else (-1, 7, 0)

theorem hit_iff {ls : List Nat} {X there s : Nat} : hit ls X there s = true ↔ ∃ x, ls[s]? = some x ∧ x ≠ 0 ∧ x ≤ there ∧ X / 2 ^ (15 - x) = code ls s := by
  unfold hit
  rw [decide_eq_true_eq]
  constructor
  · rintro ⟨h1, h2, h3⟩
    have hs : s < ls.length := by
      rcases Nat.lt_or_ge s ls.length with h | h
      · exact h
      · rw [List.getD_eq_getElem?_getD, List.getElem?_eq_none h] at h1; simp at h1
    have e : ls.getD s 0 = ls[s] := by simp [List.getD_eq_getElem?_getD, hs]
    rw [e] at h1 h2 h3
    exact ⟨_, List.getElem?_eq_getElem hs, h1, h2, h3⟩
  · rintro ⟨x, h0, h1, h2, h3⟩
    have e : ls.getD s 0 = x := by simp [List.getD_eq_getElem?_getD, h0]
    rw [e]
    exact ⟨h1, h2, h3⟩
theorem div_in {X c d : Nat} (hd : 0 < d) (h : X / d = c) : c * d ≤ X ∧ X < (c + 1) * d := by
  subst h
  exact ⟨Nat.div_mul_le_self X d, by rw [Nat.add_mul, Nat.one_mul]; exact Nat.lt_div_mul_add hd⟩
/-- No two words stand at the head of the same bits. -/
theorem hit_one {ls : List Nat} (hok : okB ls = true) {X a b s t : Nat} (hs : hit ls X a s = true) (ht : hit ls X b t = true) : s = t := by
  obtain ⟨x, hx, hx0, _, hxX⟩ := hit_iff.1 hs
  obtain ⟨y, hy, hy0, _, hyX⟩ := hit_iff.1 ht
  obtain ⟨_, hsm, _⟩ := ok_parts hok
  have hx15 := hsm x (List.mem_of_getElem? hx)
  have hy15 := hsm y (List.mem_of_getElem? hy)
  have h1 := div_in (Nat.two_pow_pos _) hxX
  have h2 := div_in (Nat.two_pow_pos _) hyX
  have h3 := code_in hx hx0 hx15
  have h4 := code_in hy hy0 hy15
  by_cases hlt : x < y
  · have := wsum_mono ls (show x + 1 ≤ y by omega); omega
  · by_cases hgt : y < x
    · have := wsum_mono ls (show y + 1 ≤ x by omega); omega
    · obtain rfl : x = y := by omega
      have e : code ls s = code ls t := by rw [← hxX, ← hyX]
      rw [code_of hx hx0, code_of hy hy0] at e
      exact nth_one hx hy (by omega)
theorem getR_hit {ls : List Nat} (hok : okB ls = true) {X there s x : Nat} (hx : ls[s]? = some x) (h : hit ls X there s = true) : getR ls X there = ((s : Int), 0, x) := by
  have hs : s < ls.length := (List.getElem?_eq_some_iff.1 hx).1
  unfold getR
  have : (List.range ls.length).find? (hit ls X there) = some s := by
    cases hf : (List.range ls.length).find? (hit ls X there) with
    | none =>
      have := List.find?_eq_none.1 hf s (List.mem_range.2 hs)
      rw [h] at this
      exact absurd rfl this
    | some t =>
      rw [hit_one hok h (List.find?_some hf)]
  rw [this]
  simp [List.getD_eq_getElem?_getD, hx]
theorem getR_none {ls : List Nat} {X there : Nat} (h : ∀ s, hit ls X there s = false) : getR ls X there = if (List.range ls.length).any (begin_ ls X there) then (-1, 1, 0) else (-1, 7, 0) := by
  unfold getR
  have : (List.range ls.length).find? (hit ls X there) = none := List.find?_eq_none.2 (fun s _ => by rw [h s]; simp)
  rw [this]
/-- The words of l bits: those from the first one on, as many as there are. -/
theorem find_hit {ls : List Nat} {X l : Nat} (h0 : l ≠ 0) {k : Nat} (hk : k < cn ls l) (hX : X / 2 ^ (15 - l) = fst ls l + k) :
    ∃ s, (symsOf ls l)[k]? = some s ∧ ls[s]? = some l ∧ hit ls X l s = true := by
  have hk' : k < cnt ls l := by unfold cn at hk; rwa [if_neg h0] at hk
  obtain ⟨s, h1, h2, h3⟩ := nth_there hk'
  exact ⟨s, h1, h2, hit_iff.2 ⟨l, h2, h0, Nat.le_refl _, by rw [hX, code_of h2 h0, h3]⟩⟩
theorem find_miss {ls : List Nat} {X l s : Nat} (h0 : l ≠ 0) (hs : ls[s]? = some l) (h : X / 2 ^ (15 - l) = code ls s) : fst ls l ≤ X / 2 ^ (15 - l) ∧ X / 2 ^ (15 - l) < fst ls l + cn ls l := by
  have h1 := code_of hs h0
  have h2 := cnt_take_lt hs
  unfold cn
  rw [if_neg h0]
  omega
theorem hit_mono {ls : List Nat} {X a b s : Nat} (h : a ≤ b) (hs : hit ls X a s = true) : hit ls X b s = true := by
  obtain ⟨x, h1, h2, h3, h4⟩ := hit_iff.1 hs
  exact hit_iff.2 ⟨x, h1, h2, by omega, h4⟩
/-- No symbol of at most l bits, if none of fewer and none of just so many. -/
theorem no_hit_succ {ls : List Nat} {X l : Nat} (h : ∀ s, hit ls X l s = false) (h1 : X / 2 ^ (15 - (l + 1)) < fst ls (l + 1) ∨ fst ls (l + 1) + cn ls (l + 1) ≤ X / 2 ^ (15 - (l + 1))) : ∀ s, hit ls X (l + 1) s = false := by
  intro s
  cases hh : hit ls X (l + 1) s
  · rfl
  · obtain ⟨x, hx, hx0, hxl, hxX⟩ := hit_iff.1 hh
    by_cases e : x = l + 1
    · subst e
      have := find_miss (by omega) hx hxX
      omega
    · have := h s
      rw [hit_iff.2 ⟨x, hx, hx0, by omega, hxX⟩] at this
      cases this
theorem no_hit_zero (ls : List Nat) (X : Nat) : ∀ s, hit ls X 0 s = false := by
  intro s
  cases hh : hit ls X 0 s
  · rfl
  · obtain ⟨x, _, hx0, hxl, _⟩ := hit_iff.1 hh
    omega
theorem begin_iff {ls : List Nat} {X there s : Nat} : begin_ ls X there s = true ↔ ∃ x, ls[s]? = some x ∧ there < x ∧ X / 2 ^ (15 - there) = code ls s / 2 ^ (x - there) := by
  unfold begin_
  rw [decide_eq_true_eq]
  constructor
  · rintro ⟨h2, h3⟩
    have hs : s < ls.length := by
      rcases Nat.lt_or_ge s ls.length with h | h
      · exact h
      · rw [List.getD_eq_getElem?_getD, List.getElem?_eq_none h] at h2; simp at h2
    have e : ls.getD s 0 = ls[s] := by simp [List.getD_eq_getElem?_getD, hs]
    rw [e] at h2 h3
    exact ⟨_, List.getElem?_eq_getElem hs, h2, h3⟩
  · rintro ⟨x, h0, h2, h3⟩
    have e : ls.getD s 0 = x := by simp [List.getD_eq_getElem?_getD, h0]
    rw [e]
    exact ⟨h2, h3⟩
/-- Words of k bits that begin with the l bits x: the two rows of numbers meet. -/
theorem begins_some {ls : List Nat} {x l k : Nat} (hlk : l < k) (h0 : 0 < cn ls k) (h1 : x * 2 ^ (k - l) < fst ls k + cn ls k) (h2 : fst ls k < x * 2 ^ (k - l) + 2 ^ (k - l)) :
    ∃ s, ls[s]? = some k ∧ code ls s / 2 ^ (k - l) = x := by
  have hk0 : k ≠ 0 := by omega
  obtain ⟨j, hj1, hj2⟩ : ∃ j, j < cn ls k ∧ (fst ls k + j) / 2 ^ (k - l) = x := by
    have hp := Nat.two_pow_pos (k - l)
    generalize 2 ^ (k - l) = d at *
    by_cases h : fst ls k ≤ x * d
    · refine ⟨x * d - fst ls k, by omega, ?_⟩
      rw [show fst ls k + (x * d - fst ls k) = x * d by omega]
      exact Nat.mul_div_cancel _ hp
    · refine ⟨0, h0, ?_⟩
      rw [Nat.add_zero]
      apply Nat.div_eq_of_lt_le
      · omega
      · rw [Nat.add_mul, Nat.one_mul]; omega
  have hj' : j < cnt ls k := by unfold cn at hj1; rwa [if_neg hk0] at hj1
  obtain ⟨s, _, h3, h4⟩ := nth_there hj'
  exact ⟨s, h3, by rw [code_of h3 hk0, h4, hj2]⟩
theorem begins_none {ls : List Nat} {x l k s : Nat} (hlk : l < k) (hs : ls[s]? = some k) (h : code ls s / 2 ^ (k - l) = x) :
    0 < cn ls k ∧ x * 2 ^ (k - l) < fst ls k + cn ls k ∧ fst ls k < x * 2 ^ (k - l) + 2 ^ (k - l) := by
  have hk0 : k ≠ 0 := by omega
  have h1 := code_of hs hk0
  have h2 := cnt_take_lt hs
  have h3 := div_in (Nat.two_pow_pos (k - l)) h
  have e : cn ls k = cnt ls k := by unfold cn; rw [if_neg hk0]
  rw [Nat.add_mul, Nat.one_mul] at h3
  omega

/-! ### Bits that are read -/
theorem accB_div (bs : List Bool) (i m : Nat) : ∀ d, accB bs i (m + d) / 2 ^ d = accB bs i m
  | 0 => by simp
  | d + 1 => by
    have h1 := bit_le bs (i + (m + d))
    rw [← Nat.add_assoc, accB, Nat.pow_succ, Nat.mul_comm (2 ^ d) 2, ← Nat.div_div_eq_div_mul]
    rw [show (2 * accB bs i (m + d) + bit bs (i + (m + d))) / 2 = accB bs i (m + d) by omega]
    exact accB_div bs i m d
/-- The word of a symbol is read as its number. -/
theorem accB_msb (x n : Nat) (hx : x < 2 ^ n) (bs pre post : List Bool) (h : bs = pre ++ msb x n n ++ post) : ∀ m, m ≤ n → accB bs pre.length m = x / 2 ^ (n - m)
  | 0, _ => by rw [accB, Nat.sub_zero, Nat.div_eq_of_lt hx]
  | m + 1, hm => by
    rw [accB, accB_msb x n hx bs pre post h m (by omega)]
    have hb : bit bs (pre.length + m) = x / 2 ^ (n - 1 - m) % 2 := by
      unfold bit
      have hl : m < (msb x n n).length := by rw [msb_length]; omega
      have e : bs.getD (pre.length + m) false = decide (x / 2 ^ (n - 1 - m) % 2 = 1) := by
        rw [h, List.append_assoc, List.getD_eq_getElem?_getD, List.getElem?_append_right (by omega), Nat.add_sub_cancel_left, List.getElem?_append_left hl, List.getElem?_eq_getElem hl]
        simp [msb]
      rw [e]
      by_cases h1 : x / 2 ^ (n - 1 - m) % 2 = 1
      · rw [decide_eq_true h1, h1]; rfl
      · rw [decide_eq_false h1]; simp; omega
    rw [hb, show n - m = (n - 1 - m) + 1 by omega, show n - (m + 1) = n - 1 - m by omega, Nat.pow_succ, ← Nat.div_div_eq_div_mul]
    omega
end Go.Proofs.YtidclmmnfienlaaGreatDoor.Huff

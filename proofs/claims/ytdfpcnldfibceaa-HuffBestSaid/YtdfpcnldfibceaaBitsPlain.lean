/-
  Bits and the bytes that hold them: the plain part.
-/
import Derived.Test.YtdfpcnldfibceaaCanonPlain
namespace Go.Proofs.Ytdfpcnldfibceaa.Huff

def bit (bs : List Bool) (i : Nat) : Nat := if bs.getD i false then 1 else 0
/-- The k-th byte of a row of bits: the first bit is the highest. -/
def byteAt (bs : List Bool) (k : Nat) : Nat :=
  bit bs (8 * k) * 128 + bit bs (8 * k + 1) * 64 + bit bs (8 * k + 2) * 32 + bit bs (8 * k + 3) * 16 + bit bs (8 * k + 4) * 8 + bit bs (8 * k + 5) * 4 + bit bs (8 * k + 6) * 2 + bit bs (8 * k + 7)
def bytesOf (bs : List Bool) : List Nat := (List.range ((bs.length + 7) / 8)).map (byteAt bs)

theorem bytesOf_length (bs : List Bool) : (bytesOf bs).length = (bs.length + 7) / 8 := by simp [bytesOf]
theorem bit_le (bs : List Bool) (i : Nat) : bit bs i ≤ 1 := by unfold bit; split <;> omega
theorem byteAt_le (bs : List Bool) (k : Nat) : byteAt bs k ≤ 255 := by
  unfold byteAt
  have h0 := bit_le bs (8 * k)
  have h1 := bit_le bs (8 * k + 1)
  have h2 := bit_le bs (8 * k + 2)
  have h3 := bit_le bs (8 * k + 3)
  have h4 := bit_le bs (8 * k + 4)
  have h5 := bit_le bs (8 * k + 5)
  have h6 := bit_le bs (8 * k + 6)
  have h7 := bit_le bs (8 * k + 7)
  omega
theorem bit_out {bs : List Bool} {i : Nat} (h : bs.length ≤ i) : bit bs i = 0 := by
  unfold bit
  simp [List.getD_eq_getElem?_getD, List.getElem?_eq_none h]
theorem bit_snoc_lt {bs : List Bool} {b : Bool} {i : Nat} (h : i ≠ bs.length) : bit (bs ++ [b]) i = bit bs i := by
  unfold bit
  by_cases hlt : i < bs.length
  · simp [List.getD_eq_getElem?_getD, List.getElem?_append_left hlt]
  · simp [List.getD_eq_getElem?_getD, List.getElem?_eq_none (show (bs ++ [b]).length ≤ i by simp; omega), List.getElem?_eq_none (show bs.length ≤ i by omega)]
theorem bit_snoc_eq (bs : List Bool) (b : Bool) : bit (bs ++ [b]) bs.length = if b then 1 else 0 := by
  unfold bit
  simp [List.getD_eq_getElem?_getD]
/-- One bit more turns one byte alone. -/
theorem byteAt_other {bs : List Bool} {b : Bool} {k : Nat} (h : k ≠ bs.length / 8) : byteAt (bs ++ [b]) k = byteAt bs k := by
  unfold byteAt
  rw [bit_snoc_lt (by omega), bit_snoc_lt (by omega), bit_snoc_lt (by omega), bit_snoc_lt (by omega), bit_snoc_lt (by omega), bit_snoc_lt (by omega), bit_snoc_lt (by omega), bit_snoc_lt (by omega)]
theorem byteAt_zero {bs : List Bool} {k : Nat} (h : bs.length ≤ 8 * k) : byteAt bs k = 0 := by
  unfold byteAt
  rw [bit_out (by omega), bit_out (by omega), bit_out (by omega), bit_out (by omega), bit_out (by omega), bit_out (by omega), bit_out (by omega), bit_out (by omega)]
/-- The byte that the next bit goes into: its low bits are 0. -/
theorem byteAt_low (bs : List Bool) : 2 ^ (8 - bs.length % 8) ∣ byteAt bs (bs.length / 8) := by
  obtain ⟨q, r, hr, hl⟩ : ∃ q r, r < 8 ∧ bs.length = 8 * q + r := ⟨bs.length / 8, bs.length % 8, by omega, by omega⟩
  have e1 : bs.length / 8 = q := by omega
  have e2 : bs.length % 8 = r := by omega
  rw [e1, e2]
  have ho : ∀ i, r ≤ i → bit bs (8 * q + i) = 0 := fun i hi => bit_out (by omega)
  unfold byteAt
  have h0 := ho 0
  have : r = 0 ∨ r = 1 ∨ r = 2 ∨ r = 3 ∨ r = 4 ∨ r = 5 ∨ r = 6 ∨ r = 7 := by omega
  rcases this with rfl | rfl | rfl | rfl | rfl | rfl | rfl | rfl <;>
    first
    | (simp only [ho 1 (by omega), ho 2 (by omega), ho 3 (by omega), ho 4 (by omega), ho 5 (by omega), ho 6 (by omega), ho 7 (by omega)]; have := h0 (by omega); simp at this; simp [this]; done)
    | (rw [ho 7 (by omega)]; (try rw [ho 6 (by omega)]); (try rw [ho 5 (by omega)]); (try rw [ho 4 (by omega)]); (try rw [ho 3 (by omega)]); (try rw [ho 2 (by omega)]); (try rw [ho 1 (by omega)]); omega)
theorem byteAt_snoc (bs : List Bool) (b : Bool) : byteAt (bs ++ [b]) (bs.length / 8) = byteAt bs (bs.length / 8) + (if b then 1 else 0) * 2 ^ (7 - bs.length % 8) := by
  obtain ⟨q, r, hr, hl⟩ : ∃ q r, r < 8 ∧ bs.length = 8 * q + r := ⟨bs.length / 8, bs.length % 8, by omega, by omega⟩
  have e1 : bs.length / 8 = q := by omega
  have e2 : bs.length % 8 = r := by omega
  rw [e1, e2]
  have hn : ∀ i, i ≠ r → bit (bs ++ [b]) (8 * q + i) = bit bs (8 * q + i) := fun i hi => bit_snoc_lt (by omega)
  have he : bit (bs ++ [b]) (8 * q + r) = if b then 1 else 0 := by rw [← hl]; exact bit_snoc_eq bs b
  have hz : bit bs (8 * q + r) = 0 := bit_out (by omega)
  have h0 := hn 0
  simp only [Nat.add_zero] at h0
  unfold byteAt
  generalize (if b then 1 else 0) = x at he ⊢
  have : r = 0 ∨ r = 1 ∨ r = 2 ∨ r = 3 ∨ r = 4 ∨ r = 5 ∨ r = 6 ∨ r = 7 := by omega
  rcases this with rfl | rfl | rfl | rfl | rfl | rfl | rfl | rfl <;> (try simp only [Nat.add_zero] at he hz) <;> simp only [he, hz] <;>
    (try rw [h0 (by omega)]) <;> (try rw [hn 1 (by omega)]) <;> (try rw [hn 2 (by omega)]) <;> (try rw [hn 3 (by omega)]) <;> (try rw [hn 4 (by omega)]) <;> (try rw [hn 5 (by omega)]) <;> (try rw [hn 6 (by omega)]) <;> (try rw [hn 7 (by omega)]) <;> omega
/-- 'or' into low bits that are 0 is a sum. -/
theorem or_low {x y s : Nat} (hx : 2 ^ (s + 1) ∣ x) (hy : y ≤ 1) : x ||| y * 2 ^ s = x + y * 2 ^ s := by
  obtain ⟨q, rfl⟩ := hx
  have h1 : y * 2 ^ s < 2 ^ (s + 1) := by
    rw [Nat.pow_succ]
    have h2 : 0 < 2 ^ s := Nat.two_pow_pos s
    have h3 : y * 2 ^ s ≤ 1 * 2 ^ s := Nat.mul_le_mul_right _ hy
    omega
  exact (Nat.two_pow_add_eq_or_of_lt h1 q).symm
theorem byteAt_or (bs : List Bool) (b : Bool) : byteAt bs (bs.length / 8) ||| (if b then 1 else 0) * 2 ^ (7 - bs.length % 8) = byteAt (bs ++ [b]) (bs.length / 8) := by
  rw [byteAt_snoc]
  refine or_low ?_ (by split <;> omega)
  rw [show 7 - bs.length % 8 + 1 = 8 - bs.length % 8 by omega]
  exact byteAt_low bs
/-- The bytes ahead of one more bit: a new byte 0 where the last is full. -/
def roomOf (bs : List Bool) : List Nat := if bs.length % 8 = 0 then bytesOf bs ++ [0] else bytesOf bs
theorem roomOf_eq (bs : List Bool) : roomOf bs = (List.range (bs.length / 8 + 1)).map (byteAt bs) := by
  unfold roomOf
  split
  · rename_i h
    rw [List.range_succ, List.map_append, bytesOf, show (bs.length + 7) / 8 = bs.length / 8 by omega]
    simp only [List.map_cons, List.map_nil]
    rw [byteAt_zero (k := bs.length / 8) (by omega)]
  · rw [bytesOf, show (bs.length + 7) / 8 = bs.length / 8 + 1 by omega]
theorem bytesOf_snoc (bs : List Bool) (b : Bool) : bytesOf (bs ++ [b]) = (roomOf bs).set (bs.length / 8) (byteAt (bs ++ [b]) (bs.length / 8)) := by
  rw [roomOf_eq, bytesOf, List.length_append, List.length_singleton, show (bs.length + 1 + 7) / 8 = bs.length / 8 + 1 by omega]
  apply List.ext_getElem
  · simp
  · intro i h1 h2
    rw [List.getElem_set]
    simp only [List.getElem_map, List.getElem_range]
    split
    · rename_i e; rw [e]
    · rename_i e; exact byteAt_other (fun e2 => e e2.symm)
end Go.Proofs.Ytdfpcnldfibceaa.Huff

/-
  The walks of huff's words.length and Coder.Len.
  Bits of bytes, symbol by symbol, packed and unpacked: the plain part.
-/
import Derived.Test.YtidclmmnfienlaaGreatDoorCloneNum
import Derived.Test.YtidclmmnfienlaaGreatDoorBitsBase

namespace Go.Proofs.YtidclmmnfienlaaGreatDoor.Huff
open Go.RowKit Go.Proofs.YtidclmmnfienlaaGreatDoor.Mem Go.Proofs.YtidclmmnfienlaaGreatDoor.Canon

def lenAt (ls : List Nat) (s : Int) : Nat := if s < 0 then 0 else ls.getD s.toNat 0

set_option maxRecDepth 100000 in
theorem length_any (w : World) (g B : Nat) (A : Option Addr) (n c : Nat) (ls : List Nat) (s : Int) (hn : ls.length = n) (hs : -9223372036854775808 ≤ s ∧ s ≤ 9223372036854775807)
    (hsm : ∀ x ∈ ls, x ≤ 255) (hg : w.cell? ⟨g, 0, none⟩ = some (.slice A n c)) (ha : Row w B A n 1 (numF .u8 ls)) :
    Calls Tryz.prog 160 #[.pointer (some ⟨g, 0, none⟩), .int .i64 s] w fun e w' => e = .returned (.int .i64 (lenAt ls s : Nat)) ∧ w = w' := by
  obtain ⟨hs1, hs2⟩ := hs
  by_cases h0 : s < 0
  · have e0 : lenAt ls s = 0 := by unfold lenAt; rw [if_pos h0]
    rw [e0]
    clear hsm hn
    go_enter Tryz.func160, Tryz.ntmps160
    go_wp2_with fail
    go_ret
    exact ⟨rfl, rfl⟩
  · obtain ⟨m, rfl⟩ := Int.eq_ofNat_of_zero_le (show 0 ≤ s by omega)
    by_cases h1 : m < n
    · obtain ⟨b, off, x, rfl, hb, hx, hc⟩ := num_cell ha hn h1
      have hx255 : x ≤ 255 := hsm x (List.mem_of_getElem? hx)
      have e0 : lenAt ls (m : Int) = x := by unfold lenAt; rw [if_neg h0]; simp [List.getD_eq_getElem?_getD, hx]
      rw [e0]
      have x0 : (0 : Int) ≤ (m : Int) := by omega
      have x1 : (m : Int) < (n : Int) := by omega
      clear hsm hn hx
      go_enter Tryz.func160, Tryz.ntmps160
      go_wp2_with fail
      go_ret
      exact ⟨by go_num, rfl⟩
    · have e0 : lenAt ls (m : Int) = 0 := by
        unfold lenAt; rw [if_neg h0]
        simp [List.getD_eq_getElem?_getD, List.getElem?_eq_none (show ls.length ≤ m by omega)]
      rw [e0]
      have x1 : ¬ (m : Int) < (n : Int) := by omega
      clear hsm hn
      go_enter Tryz.func160, Tryz.ntmps160
      go_wp2_with fail
      go_ret
      exact ⟨rfl, rfl⟩

set_option maxRecDepth 100000 in
theorem len_nil (w : World) (s : Int) :
    Calls Tryz.prog 139 #[.pointer none, .int .i64 s] w fun e w' => e = .returned (.int .i64 0) ∧ w = w' := by
  go_enter Tryz.func139, Tryz.ntmps139
  go_wp2_with fail
  go_ret
  exact ⟨rfl, rfl⟩
set_option maxRecDepth 100000 in
theorem len_any (w : World) (g B : Nat) (A : Option Addr) (n c : Nat) (ls : List Nat) (s : Int) (hn : ls.length = n) (hs : -9223372036854775808 ≤ s ∧ s ≤ 9223372036854775807)
    (hsm : ∀ x ∈ ls, x ≤ 255) (hg : w.cell? ⟨g, 0, none⟩ = some (.slice A n c)) (ha : Row w B A n 1 (numF .u8 ls)) :
    Calls Tryz.prog 139 #[.pointer (some ⟨g, 0, none⟩), .int .i64 s] w fun e w' => e = .returned (.int .i64 (lenAt ls s : Nat)) ∧ w = w' := by
  have C := Lib.hid (length_any w g B A n c ls s hn hs hsm hg ha)
  clear hn hs hsm ha
  go_enter Tryz.func139, Tryz.ntmps139
  go_wp2_with fail
  refine C.out.mono ?_
  rintro e w1 ⟨rfl, rfl⟩
  go_wp2_with fail
  go_ret
  exact ⟨rfl, rfl⟩
end Go.Proofs.YtidclmmnfienlaaGreatDoor.Huff

namespace Go.Proofs.YtidclmmnfienlaaGreatDoor.Huff
open Go.Proofs.YtidclmmnfienlaaGreatDoor.Canon

/-- The bits of bytes. -/
def rbits (ls : List Nat) : List Bool := (List.range (8 * ls.length)).map fun i => decide (ls.getD (i / 8) 0 / 2 ^ (7 - i % 8) % 2 = 1)
theorem rbits_length (ls : List Nat) : (rbits ls).length = 8 * ls.length := by simp [rbits]
theorem rbits_bit {ls : List Nat} {i : Nat} (h : i < 8 * ls.length) : bit (rbits ls) i = ls.getD (i / 8) 0 / 2 ^ (7 - i % 8) % 2 := by
  unfold bit rbits
  rw [List.getD_eq_getElem?_getD, List.getElem?_map, List.getElem?_range h]
  simp only [Option.map_some, Option.getD_some, decide_eq_true_eq]
  split <;> omega
/-- What is written is read: the bits, and 0 to the end of the last byte. -/
theorem rbits_bytesOf_bit (bs : List Bool) (i : Nat) : bit (rbits (bytesOf bs)) i = bit bs i := by
  by_cases h : i < 8 * (bytesOf bs).length
  · rw [rbits_bit h]
    rw [bytesOf_length] at h
    have e : (bytesOf bs).getD (i / 8) 0 = byteAt bs (i / 8) := by
      unfold bytesOf
      rw [List.getD_eq_getElem?_getD, List.getElem?_map, List.getElem?_range (by omega)]
      rfl
    rw [e]
    obtain ⟨q, r, hr, hi⟩ : ∃ q r, r < 8 ∧ i = 8 * q + r := ⟨i / 8, i % 8, by omega, by omega⟩
    have e1 : i / 8 = q := by omega
    have e2 : i % 8 = r := by omega
    rw [e1, e2]
    subst hi
    unfold byteAt
    have h0 := bit_le bs (8 * q)
    have h1 := bit_le bs (8 * q + 1)
    have h2 := bit_le bs (8 * q + 2)
    have h3 := bit_le bs (8 * q + 3)
    have h4 := bit_le bs (8 * q + 4)
    have h5 := bit_le bs (8 * q + 5)
    have h6 := bit_le bs (8 * q + 6)
    have h7 := bit_le bs (8 * q + 7)
    have : r = 0 ∨ r = 1 ∨ r = 2 ∨ r = 3 ∨ r = 4 ∨ r = 5 ∨ r = 6 ∨ r = 7 := by omega
    rcases this with rfl | rfl | rfl | rfl | rfl | rfl | rfl | rfl <;> (simp only [Nat.add_zero, Nat.sub_zero, Nat.reduceSub, Nat.reducePow]; omega)
  · rw [bit_out (by rw [rbits_length]; omega), bit_out (by rw [bytesOf_length] at h; omega)]
theorem accB_congr {a b : List Bool} (h : ∀ i, bit a i = bit b i) (i : Nat) : ∀ m, accB a i m = accB b i m
  | 0 => rfl
  | m + 1 => by rw [accB, accB, accB_congr h i m, h]

/-- Fifteen bits from a place on, and how many of them are there. -/
def head (bs : List Bool) (at_ : Nat) : Nat := accB bs at_ 15
def there (bs : List Bool) (at_ : Nat) : Nat := min 15 (bs.length - at_)
/-- n symbols, behind those that are read: the symbols, the error. -/
def unGo (ls : List Nat) (bs : List Bool) : Nat → List Int → Nat → List Int × Int
  | 0, out, at_ => if bs.length - at_ ≥ 8 ∨ accB bs at_ (bs.length - at_) ≠ 0 then ([], 2) else (out, 0)
  | m + 1, out, at_ => let g := getR ls (head bs at_) (there bs at_); if g.2.1 ≠ 0 then ([], g.2.1) else unGo ls bs m (out ++ [g.1]) (at_ + g.2.2)

/-- A word that was written is read. -/
theorem getR_word {ls : List Nat} (hok : okB ls = true) {s x : Nat} (hx : ls[s]? = some x) (h0 : x ≠ 0) {bs : List Bool} (pre post : List Bool) (hb : ∀ i, bit bs i = bit (pre ++ word ls s ++ post) i) (hl : pre.length + x ≤ bs.length) :
    getR ls (head bs pre.length) (there bs pre.length) = ((s : Int), 0, x) := by
  obtain ⟨_, hsm, _⟩ := ok_parts hok
  have h15 := hsm x (List.mem_of_getElem? hx)
  refine getR_hit hok hx (hit_iff.2 ⟨x, hx, h0, by unfold there; omega, ?_⟩)
  have e : ls.getD s 0 = x := by simp [List.getD_eq_getElem?_getD, hx]
  unfold head
  have h1 := accB_div bs pre.length x (15 - x)
  rw [show x + (15 - x) = 15 by omega] at h1
  rw [h1, accB_congr hb]
  unfold word
  rw [e]
  have h2 := accB_msb (code ls s) x (code_lt hok hx h0) (pre ++ msb (code ls s) x x ++ post) pre post rfl x (Nat.le_refl _)
  rw [h2, Nat.sub_self, Nat.pow_zero, Nat.div_one]
theorem lenAt_pos {ls : List Nat} {s : Int} (h : lenAt ls s ≠ 0) : ∃ m x : Nat, s = m ∧ ls[m]? = some x ∧ x ≠ 0 := by
  unfold lenAt at h
  split at h
  · exact absurd rfl h
  · rename_i h0
    refine ⟨s.toNat, ls.getD s.toNat 0, by omega, ?_, h⟩
    rcases Nat.lt_or_ge s.toNat ls.length with h1 | h1
    · simp [List.getD_eq_getElem?_getD, h1]
    · rw [List.getD_eq_getElem?_getD, List.getElem?_eq_none h1] at h
      simp at h
/-- What was packed is unpacked. -/
theorem unGo_packed {ls : List Nat} (hok : okB ls = true) {bs : List Bool} : ∀ (rest done : List Int), (∀ s ∈ rest, lenAt ls s ≠ 0) → (∀ i, bit bs i = bit (packed ls (done ++ rest)) i) →
    (packed ls (done ++ rest)).length ≤ bs.length → bs.length < (packed ls (done ++ rest)).length + 8 →
    unGo ls bs rest.length done (packed ls done).length = (done ++ rest, 0)
  | [], done, _, hb, h1, h2 => by
    rw [List.append_nil] at hb h1 h2 ⊢
    rw [List.length_nil, unGo, if_neg]
    rw [not_or, Nat.not_le, Decidable.not_not]
    refine ⟨by omega, ?_⟩
    have : ∀ m, accB bs (packed ls done).length m = 0 := by
      intro m
      induction m with
      | zero => rfl
      | succ m ih => rw [accB, ih, hb, bit_out (by omega)]
    exact this _
  | s :: rest, done, hs, hb, h1, h2 => by
    obtain ⟨m, x, rfl, hx, h0⟩ := lenAt_pos (hs s (by simp))
    have e : done ++ (m : Int) :: rest = (done ++ [(m : Int)]) ++ rest := by simp
    have hw : (word ls m).length = x := by rw [word_length]; simp [List.getD_eq_getElem?_getD, hx]
    have hsplit : packed ls (done ++ (m : Int) :: rest) = packed ls done ++ word ls m ++ packed ls rest := by simp [packed]
    have hlen : (packed ls (done ++ [(m : Int)])).length = (packed ls done).length + x := by
      rw [packed_snoc, List.length_append, Int.toNat_natCast, hw]
    have hg := getR_word hok hx h0 (packed ls done) (packed ls rest) (bs := bs) (fun i => by rw [hb i, hsplit])
      (by rw [hsplit, List.length_append, List.length_append, hw] at h1; omega)
    rw [List.length_cons, unGo, hg]
    simp only [ne_eq, not_true_eq_false, if_false]
    rw [← hlen, unGo_packed hok rest (done ++ [(m : Int)]) (fun t ht => hs t (by simp [ht])) (by rw [← e]; exact hb) (by rw [← e]; exact h1) (by rw [← e]; exact h2), e]
end Go.Proofs.YtidclmmnfienlaaGreatDoor.Huff

/-
  The walk of the library's Clone of bytes. The walks of huff's words.length and Coder.Len. Bits of bytes, symbol by symbol, packed and unpacked: the plain part.
-/
import Derived.Test.YtmgjgkdbagbleaaGreatDoorZOneTurned4
import Derived.Test.YtmgjgkdbagbleaaGreatDoorZOneTurned3
import Derived.Test.YtmgjgkdbagbleaaGreatDoorZOneTurned2
import Derived.WalkSpells
namespace Go.Proofs.YtmgjgkdbagbleaaGreatDoor.Canon
open Go.RowKit Go.Proofs.YtmgjgkdbagbleaaGreatDoor.Mem
def numL (k : IntKind) (ls : List Nat) : List Value := ls.map fun x => .int k (x : Nat)
theorem numL_length (k : IntKind) (ls : List Nat) : (numL k ls).length = ls.length := by simp [numL]
theorem numL_one (k : IntKind) (ls : List Nat) : ∀ u ∈ numL k ls, u.oneCell' = true := by
  intro u hu
  obtain ⟨x, _, rfl⟩ := List.mem_map.1 hu
  rfl
theorem src_num {w : World} {B n c : Nat} {A : Option Addr} {k : IntKind} {ls : List Nat} (h : Row w B A n 1 (numF k ls)) (hn : ls.length = n) (hnil : A = none → n = 0 ∧ c = 0) : Src w A n c 1 (numL k ls) := by
  refine ⟨by rw [numL_length, hn, Nat.mul_one], ?_⟩
  cases A with
  | none => exact .inl ⟨rfl, hnil rfl⟩
  | some ad =>
    refine .inr ⟨ad, rfl, fun j u hu => ?_⟩
    obtain ⟨x, hx, rfl⟩ := List.getElem?_map .. ▸ hu |> Option.map_eq_some_iff.1
    have hj : j < n := by
      have := (List.getElem?_eq_some_iff.1 hx).1
      omega
    obtain ⟨b, off, y, e, hb, hy, hc⟩ := num_cell h hn hj
    injection e with e
    subst e
    rw [hx] at hy
    injection hy with hy
    subst hy
    rw [add_none]
    exact hc
theorem info_u8 : (Tryz.prog.info? 5).map (fun i => (i.zero, i.size, i.bytes)) = some (some (.int .u8 0), 1, 1) := by kernel_rfl
set_option maxRecDepth 100000 in
theorem clone_u8 (w : World) (A : Option Addr) (n c : Nat) (ls : List Nat) (hn : ls.length = n) (hle : n ≤ 100000) (hnil : A = none → n = 0 ∧ c = 0) (ha : Row w w.heap.size A n 1 (numF .u8 ls)) :
    Calls Tryz.prog 127 #[.slice A n c] w fun e w' => ∃ v, e = .returned v ∧ w'.ownsRow w.heap.size 5 1 v n (numL .u8 ls) ∧ Below w.heap.size w w' := by
  obtain ⟨j0, hj0, hy0, hy1, hy2⟩ := info_parts info_u8
  have HN := Lib.hid hn
  have heq := fun (w : World) (a : Option Addr) (n c : Nat) => Lib.run_eql_slice_nil (P := Tryz.prog) w 22 5 a n c 0 0 Tryz.underlying22
  cases A with
  | none =>
    obtain ⟨rfl, rfl⟩ := hnil rfl
    have hl : ls = [] := List.eq_nil_of_length_eq_zero hn
    subst hl
    clear hn hnil
    go_enter Tryz.func127, Tryz.ntmps127
    go_wp2_with fail
    go_ret
    exact ⟨_, rfl, World.ownsRow_nil _ _ _ _, Below.refl _ _⟩
  | some ad =>
    have hsrc0 := src_num (c := c) ha hn hnil
    have hown : (w.alloc (.cells #[] 5)).ownsRow w.heap.size 5 1 (.slice (some ⟨w.heap.size, 0, none⟩) 0 0) 0 [] := World.ownsRow_made w #[] 0 (Nat.le_refl _) (by unfold maxLen; omega) rfl
    have hsrc : Src (w.alloc (.cells #[] 5)) (some ad) n c 1 (numL .u8 ls) := by
      refine ⟨hsrc0.1, .inr ⟨ad, rfl, fun j u hu => ?_⟩⟩
      rcases hsrc0.2 with ⟨h, _⟩ | ⟨ad', h1, h2⟩
      · cases h
      · injection h1 with h1
        subst h1
        have hc := h2 j u hu
        exact (World.cell?_of_block (Below.heap_alloc w _ _ (World.block_lt_of_cell? _ _ hc))).trans hc
    clear hn hnil hsrc0
    go_enter Tryz.func127, Tryz.ntmps127
    go_wp2_with (at_builtin; refine wpList_app rfl (.tmp 5) (.tmp 6) 22 rfl w.heap.size 5 j0 _ 1 1 Tryz.underlying22 hj0 hy0 hy1 hy2 rfl (by decide) _ _ _ (by rfl) hown _ n _ (numL .u8 ls) (by rfl) hsrc (numL_one _ _) (by unfold maxLen; omega) (by omega) (by simp) ?_; intro v3 w3 hown3 hg3 hat3; obtain ⟨A3, c3, rfl⟩ := own_shape hown3)
    go_ret
    refine ⟨_, rfl, ?_, ?_⟩
    · simpa using hown3
    · exact (bel_alloc0 (o := .cells #[] 5) (Below.refl _ _)).grown hg3 (by simp) (fun k hk => by simp [Value.ownBlock] at hk; omega)
end Go.Proofs.YtmgjgkdbagbleaaGreatDoor.Canon
namespace Go.Proofs.YtmgjgkdbagbleaaGreatDoor.Huff
open Go.RowKit Go.Proofs.YtmgjgkdbagbleaaGreatDoor.Mem Go.Proofs.YtmgjgkdbagbleaaGreatDoor.Canon
def lenAt (ls : List Nat) (s : Int) : Nat := if s < 0 then 0 else ls.getD s.toNat 0
set_option maxRecDepth 100000 in
theorem length_any (w : World) (g B : Nat) (A : Option Addr) (n c : Nat) (ls : List Nat) (s : Int) (hn : ls.length = n) (hs : -9223372036854775808 ≤ s ∧ s ≤ 9223372036854775807)
    (hsm : ∀ x ∈ ls, x ≤ 255) (hg : w.cell? ⟨g, 0, none⟩ = some (.slice A n c)) (ha : Row w B A n 1 (numF .u8 ls)) :
    Calls Tryz.prog 311 #[.pointer (some ⟨g, 0, none⟩), .int .i64 s] w fun e w' => e = .returned (.int .i64 (lenAt ls s : Nat)) ∧ w = w' := by
  obtain ⟨hs1, hs2⟩ := hs
  by_cases h0 : s < 0
  · have e0 : lenAt ls s = 0 := by unfold lenAt; rw [if_pos h0]
    rw [e0]
    clear hsm hn
    go_enter Tryz.func311, Tryz.ntmps311
    go_wp2_with fail
    go_ret
    exact ⟨rfl, rfl⟩
  · obtain ⟨m, rfl⟩ := Int.eq_ofNat_of_zero_le (show 0 ≤ s by omega)
    by_cases h1 : m < n
    · obtain ⟨b, off, x, rfl, hb, hx, hc⟩ := num_cell ha hn h1
      have hx255 : x ≤ 255 := hsm x (List.mem_of_getElem? hx)
      have e0 : lenAt ls (m : Int) = x := by unfold lenAt; rw [if_neg h0]; simp [List.getD_eq_getElem?_getD, hx]
      rw [e0]
      have x0 : (0 : Int) ≤ (m : Int) := by omega
      have x1 : (m : Int) < (n : Int) := by omega
      clear hsm hn hx
      go_enter Tryz.func311, Tryz.ntmps311
      go_wp2_with fail
      go_ret
      exact ⟨by go_num, rfl⟩
    · have e0 : lenAt ls (m : Int) = 0 := by
        unfold lenAt; rw [if_neg h0]
        simp [List.getD_eq_getElem?_getD, List.getElem?_eq_none (show ls.length ≤ m by omega)]
      rw [e0]
      have x1 : ¬ (m : Int) < (n : Int) := by omega
      clear hsm hn
      go_enter Tryz.func311, Tryz.ntmps311
      go_wp2_with fail
      go_ret
      exact ⟨rfl, rfl⟩
set_option maxRecDepth 100000 in
theorem len_any (w : World) (g B : Nat) (A : Option Addr) (n c : Nat) (ls : List Nat) (s : Int) (hn : ls.length = n) (hs : -9223372036854775808 ≤ s ∧ s ≤ 9223372036854775807)
    (hsm : ∀ x ∈ ls, x ≤ 255) (hg : w.cell? ⟨g, 0, none⟩ = some (.slice A n c)) (ha : Row w B A n 1 (numF .u8 ls)) :
    Calls Tryz.prog 280 #[.pointer (some ⟨g, 0, none⟩), .int .i64 s] w fun e w' => e = .returned (.int .i64 (lenAt ls s : Nat)) ∧ w = w' := by
  have C := Lib.hid (length_any w g B A n c ls s hn hs hsm hg ha)
  clear hn hs hsm ha
  go_enter Tryz.func280, Tryz.ntmps280
  go_wp2_with fail
  refine C.out.mono ?_
  rintro e w1 ⟨rfl, rfl⟩
  go_wp2_with fail
  go_ret
  exact ⟨rfl, rfl⟩
end Go.Proofs.YtmgjgkdbagbleaaGreatDoor.Huff
namespace Go.Proofs.YtmgjgkdbagbleaaGreatDoor.Huff
open Go.Proofs.YtmgjgkdbagbleaaGreatDoor.Canon
def rbits (ls : List Nat) : List Bool := (List.range (8 * ls.length)).map fun i => decide (ls.getD (i / 8) 0 / 2 ^ (7 - i % 8) % 2 = 1)
theorem rbits_length (ls : List Nat) : (rbits ls).length = 8 * ls.length := by simp [rbits]
theorem rbits_bit {ls : List Nat} {i : Nat} (h : i < 8 * ls.length) : bit (rbits ls) i = ls.getD (i / 8) 0 / 2 ^ (7 - i % 8) % 2 := by
  unfold bit rbits
  rw [List.getD_eq_getElem?_getD, List.getElem?_map, List.getElem?_range h]
  simp only [Option.map_some, Option.getD_some, decide_eq_true_eq]
  split <;> omega
theorem rbits_bytesOf_bit (bs : List Bool) (i : Nat) : bit (rbits (bytesOf bs)) i = bit bs i := by
  by_cases h : i < 8 * (bytesOf bs).length
  · rw [rbits_bit h]
    rw [bytesOf_length] at h
    have e : (bytesOf bs).getD (i / 8) 0 = byteAt bs (i / 8) := by
      unfold bytesOf
      rw [List.getD_eq_getElem?_getD, List.getElem?_map, List.getElem?_range (by omega)]
      rfl
    rw [e]
    obtain ⟨q, r, hr, hi⟩ : ∃ q r, r < 8 ∧ i = 8 * q + r := ⟨i / 8, i % 8, by omega, by omega⟩
    have e1 : i / 8 = q := by omega
    have e2 : i % 8 = r := by omega
    rw [e1, e2]
    subst hi
    unfold byteAt
    have h0 := bit_le bs (8 * q)
    have h1 := bit_le bs (8 * q + 1)
    have h2 := bit_le bs (8 * q + 2)
    have h3 := bit_le bs (8 * q + 3)
    have h4 := bit_le bs (8 * q + 4)
    have h5 := bit_le bs (8 * q + 5)
    have h6 := bit_le bs (8 * q + 6)
    have h7 := bit_le bs (8 * q + 7)
    have : r = 0 ∨ r = 1 ∨ r = 2 ∨ r = 3 ∨ r = 4 ∨ r = 5 ∨ r = 6 ∨ r = 7 := by omega
    rcases this with rfl | rfl | rfl | rfl | rfl | rfl | rfl | rfl <;> (simp only [Nat.add_zero, Nat.sub_zero, Nat.reduceSub, Nat.reducePow]; omega)
  · rw [bit_out (by rw [rbits_length]; omega), bit_out (by rw [bytesOf_length] at h; omega)]
theorem accB_congr {a b : List Bool} (h : ∀ i, bit a i = bit b i) (i : Nat) : ∀ m, accB a i m = accB b i m
  | 0 => rfl
  | m + 1 => by rw [accB, accB, accB_congr h i m, h]
def head (bs : List Bool) (at_ : Nat) : Nat := accB bs at_ 15
def there (bs : List Bool) (at_ : Nat) : Nat := min 15 (bs.length - at_)
theorem getR_word {ls : List Nat} (hok : okB ls = true) {s x : Nat} (hx : ls[s]? = some x) (h0 : x ≠ 0) {bs : List Bool} (pre post : List Bool) (hb : ∀ i, bit bs i = bit (pre ++ word ls s ++ post) i) (hl : pre.length + x ≤ bs.length) :
    getR ls (head bs pre.length) (there bs pre.length) = ((s : Int), 0, x) := by
  obtain ⟨_, hsm, _⟩ := ok_parts hok
  have h15 := hsm x (List.mem_of_getElem? hx)
  refine getR_hit hok hx (hit_iff.2 ⟨x, hx, h0, by unfold there; omega, ?_⟩)
  have e : ls.getD s 0 = x := by simp [List.getD_eq_getElem?_getD, hx]
  unfold head
  have h1 := accB_div bs pre.length x (15 - x)
  rw [show x + (15 - x) = 15 by omega] at h1
  rw [h1, accB_congr hb]
  unfold word
  rw [e]
  have h2 := accB_msb (code ls s) x (code_lt hok hx h0) (pre ++ msb (code ls s) x x ++ post) pre post rfl x (Nat.le_refl _)
  rw [h2, Nat.sub_self, Nat.pow_zero, Nat.div_one]
theorem lenAt_pos {ls : List Nat} {s : Int} (h : lenAt ls s ≠ 0) : ∃ m x : Nat, s = m ∧ ls[m]? = some x ∧ x ≠ 0 := by
  unfold lenAt at h
  split at h
  · exact absurd rfl h
  · rename_i h0
    refine ⟨s.toNat, ls.getD s.toNat 0, by omega, ?_, h⟩
    rcases Nat.lt_or_ge s.toNat ls.length with h1 | h1
    · simp [List.getD_eq_getElem?_getD, h1]
    · rw [List.getD_eq_getElem?_getD, List.getElem?_eq_none h1] at h
      simp at h
end Go.Proofs.YtmgjgkdbagbleaaGreatDoor.Huff

/-
  The walk of the library's Clone of bytes. The walks of huff's words.length and Coder.Len. Bits of bytes, symbol by symbol, packed and unpacked: the plain part.
-/
import Derived.Test.YtmgjgkdbagbleaaGreatDoorZOneUnpacks4
import Derived.Test.YtmgjgkdbagbleaaGreatDoorZOneUnpacks3
import Derived.Test.YtmgjgkdbagbleaaGreatDoorZOneUnpacks2
import Derived.WalkSpells
namespace Go.Proofs.YtmgjgkdbagbleaaGreatDoor.Canon
open Go.RowKit Go.Proofs.YtmgjgkdbagbleaaGreatDoor.Mem
def numL (k : IntKind) (ls : List Nat) : List Value := ls.map fun x => .int k (x : Nat)
theorem numL_length (k : IntKind) (ls : List Nat) : (numL k ls).length = ls.length := by simp [numL]
theorem numL_one (k : IntKind) (ls : List Nat) : ∀ u ∈ numL k ls, u.oneCell' = true := by
  intro u hu
  obtain ⟨x, _, rfl⟩ := List.mem_map.1 hu
  rfl
theorem src_num {w : World} {B n c : Nat} {A : Option Addr} {k : IntKind} {ls : List Nat} (h : Row w B A n 1 (numF k ls)) (hn : ls.length = n) (hnil : A = none → n = 0 ∧ c = 0) : Src w A n c 1 (numL k ls) := by
  refine ⟨by rw [numL_length, hn, Nat.mul_one], ?_⟩
  cases A with
  | none => exact .inl ⟨rfl, hnil rfl⟩
  | some ad =>
    refine .inr ⟨ad, rfl, fun j u hu => ?_⟩
    obtain ⟨x, hx, rfl⟩ := List.getElem?_map .. ▸ hu |> Option.map_eq_some_iff.1
    have hj : j < n := by
      have := (List.getElem?_eq_some_iff.1 hx).1
      omega
    obtain ⟨b, off, y, e, hb, hy, hc⟩ := num_cell h hn hj
    injection e with e
    subst e
    rw [hx] at hy
    injection hy with hy
    subst hy
    rw [add_none]
    exact hc
theorem info_u8 : (Tryz.prog.info? 5).map (fun i => (i.zero, i.size, i.bytes)) = some (some (.int .u8 0), 1, 1) := by kernel_rfl
set_option maxRecDepth 100000 in
theorem clone_u8 (w : World) (A : Option Addr) (n c : Nat) (ls : List Nat) (hn : ls.length = n) (hle : n ≤ 100000) (hnil : A = none → n = 0 ∧ c = 0) (ha : Row w w.heap.size A n 1 (numF .u8 ls)) :
    Calls Tryz.prog 127 #[.slice A n c] w fun e w' => ∃ v, e = .returned v ∧ w'.ownsRow w.heap.size 5 1 v n (numL .u8 ls) ∧ Below w.heap.size w w' := by
  obtain ⟨j0, hj0, hy0, hy1, hy2⟩ := info_parts info_u8
  have HN := Lib.hid hn
  have heq := fun (w : World) (a : Option Addr) (n c : Nat) => Lib.run_eql_slice_nil (P := Tryz.prog) w 22 5 a n c 0 0 Tryz.underlying22
  cases A with
  | none =>
    obtain ⟨rfl, rfl⟩ := hnil rfl
    have hl : ls = [] := List.eq_nil_of_length_eq_zero hn
    subst hl
    clear hn hnil
    go_enter Tryz.func127, Tryz.ntmps127
    go_wp2_with fail
    go_ret
    exact ⟨_, rfl, World.ownsRow_nil _ _ _ _, Below.refl _ _⟩
  | some ad =>
    have hsrc0 := src_num (c := c) ha hn hnil
    have hown : (w.alloc (.cells #[] 5)).ownsRow w.heap.size 5 1 (.slice (some ⟨w.heap.size, 0, none⟩) 0 0) 0 [] := World.ownsRow_made w #[] 0 (Nat.le_refl _) (by unfold maxLen; omega) rfl
    have hsrc : Src (w.alloc (.cells #[] 5)) (some ad) n c 1 (numL .u8 ls) := by
      refine ⟨hsrc0.1, .inr ⟨ad, rfl, fun j u hu => ?_⟩⟩
      rcases hsrc0.2 with ⟨h, _⟩ | ⟨ad', h1, h2⟩
      · cases h
      · injection h1 with h1
        subst h1
        have hc := h2 j u hu
        exact (World.cell?_of_block (Below.heap_alloc w _ _ (World.block_lt_of_cell? _ _ hc))).trans hc
    clear hn hnil hsrc0
    go_enter Tryz.func127, Tryz.ntmps127
    go_wp2_with (at_builtin; refine wpList_app rfl (.tmp 5) (.tmp 6) 22 rfl w.heap.size 5 j0 _ 1 1 Tryz.underlying22 hj0 hy0 hy1 hy2 rfl (by decide) _ _ _ (by rfl) hown _ n _ (numL .u8 ls) (by rfl) hsrc (numL_one _ _) (by unfold maxLen; omega) (by omega) (by simp) ?_; intro v3 w3 hown3 hg3 hat3; obtain ⟨A3, c3, rfl⟩ := own_shape hown3)
    go_ret
    refine ⟨_, rfl, ?_, ?_⟩
    · simpa using hown3
    · exact (bel_alloc0 (o := .cells #[] 5) (Below.refl _ _)).grown hg3 (by simp) (fun k hk => by simp [Value.ownBlock] at hk; omega)
end Go.Proofs.YtmgjgkdbagbleaaGreatDoor.Canon
namespace Go.Proofs.YtmgjgkdbagbleaaGreatDoor.Huff
open Go.RowKit Go.Proofs.YtmgjgkdbagbleaaGreatDoor.Mem Go.Proofs.YtmgjgkdbagbleaaGreatDoor.Canon
end Go.Proofs.YtmgjgkdbagbleaaGreatDoor.Huff
namespace Go.Proofs.YtmgjgkdbagbleaaGreatDoor.Huff
open Go.Proofs.YtmgjgkdbagbleaaGreatDoor.Canon
def rbits (ls : List Nat) : List Bool := (List.range (8 * ls.length)).map fun i => decide (ls.getD (i / 8) 0 / 2 ^ (7 - i % 8) % 2 = 1)
theorem rbits_length (ls : List Nat) : (rbits ls).length = 8 * ls.length := by simp [rbits]
theorem rbits_bit {ls : List Nat} {i : Nat} (h : i < 8 * ls.length) : bit (rbits ls) i = ls.getD (i / 8) 0 / 2 ^ (7 - i % 8) % 2 := by
  unfold bit rbits
  rw [List.getD_eq_getElem?_getD, List.getElem?_map, List.getElem?_range h]
  simp only [Option.map_some, Option.getD_some, decide_eq_true_eq]
  split <;> omega
def head (bs : List Bool) (at_ : Nat) : Nat := accB bs at_ 15
def there (bs : List Bool) (at_ : Nat) : Nat := min 15 (bs.length - at_)
end Go.Proofs.YtmgjgkdbagbleaaGreatDoor.Huff

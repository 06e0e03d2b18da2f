/-
  The cells of a coder: how they stand when the first k symbols are in. A coder that lies in memory: what its cells hold, and how it lasts. No walk. The walk of huff.New. The walk of huff's Coder.Put: a symbol's word. The walks of bits' Reader: bit, number, Left, Skip, Peek, Pad, NewReader. The walks of huff's Coder.find, begins and Get. The walk of huff's Coder.Get. The walks of the reference's R: Reader, Left, Skip, Peek, Pad. The walks of bits' Reader.Get and of the reference's R.Get.
-/
import Derived.Test.YtmgjgkdbagbleaaGreatDoorZOneTurned2
import Derived.Test.YtmgjgkdbagbleaaGreatDoorZOneTurned5
import Derived.Test.YtmgjgkdbagbleaaGreatDoorZOneTurned3
import Derived.Test.YtmgjgkdbagbleaaGreatDoorZOneTurned4
import Derived.Test.YtmgjgkdbagbleaaGreatDoorZOneTurned21
import Derived.BigRegion
import Derived.Deep.RegionLaw
import Derived.Deep.AppendLies
import Derived.BigGuardPart
import Derived.BigQuiet
import Derived.Deep.QuietTactic
import Derived.Laws.Bits64b
import Derived.Laws.BitsLemmas
namespace Go.Proofs.YtmgjgkdbagbleaaGreatDoor.Huff
open Go.RowKit Go.Proofs.YtmgjgkdbagbleaaGreatDoor.Mem Go.Proofs.YtmgjgkdbagbleaaGreatDoor.Canon Go.Proofs.YtmgjgkdbagbleaaGreatDoor.Own
def symsN (ls : List Nat) (l : Nat) : List Nat := if l = 0 then [] else symsOf ls l
theorem symsN_length (ls : List Nat) (l : Nat) : (symsN ls l).length = cn ls l := by
  unfold symsN cn
  split
  · rfl
  · exact symsOf_length l ls
theorem cn_take_succ {ls : List Nat} {k x : Nat} (hx : ls[k]? = some x) (h0 : x ≠ 0) (l : Nat) : cn (ls.take (k + 1)) l = cn (ls.take k) l + if x = l then 1 else 0 := by
  rw [take_snoc hx]
  unfold cn
  split
  · rename_i h; subst h; rw [if_neg h0]
  · rw [cnt_snoc]
theorem cn_take_zero {ls : List Nat} {k : Nat} (hx : ls[k]? = some 0) (l : Nat) : cn (ls.take (k + 1)) l = cn (ls.take k) l := by
  rw [take_snoc hx]
  unfold cn
  split
  · rfl
  · rw [cnt_snoc, if_neg (by omega)]; rfl
theorem symsN_take_succ {ls : List Nat} {k x : Nat} (hx : ls[k]? = some x) (h0 : x ≠ 0) (l : Nat) : symsN (ls.take (k + 1)) l = symsN (ls.take k) l ++ if x = l then [k] else [] := by
  have hk : (ls.take k).length = k := by
    have := (List.getElem?_eq_some_iff.1 hx).1
    rw [List.length_take]; omega
  rw [take_snoc hx]
  unfold symsN
  split
  · rename_i h; subst h; rw [if_neg h0]; rfl
  · rw [symsOf_snoc, hk]
theorem symsN_take_zero {ls : List Nat} {k : Nat} (hx : ls[k]? = some 0) (l : Nat) : symsN (ls.take (k + 1)) l = symsN (ls.take k) l := by
  rw [take_snoc hx]
  unfold symsN
  split
  · rfl
  · rw [symsOf_snoc, if_neg (by omega), List.append_nil]
def firstN (ls : List Nat) (k l : Nat) : Nat := if cn (ls.take k) l = 0 then 0 else fst ls l
def upd (sv : Nat → Value) (l : Nat) (v : Value) : Nat → Value := fun m => if m = l then v else sv m
structure Cells (ls : List Nat) (k : Nat) (vl vc : Value) (sv : Nat → Value) (cs : Array Value) : Prop where
  size : cs.size = 50
  lens : cs[0]? = some vl
  codes : cs[1]? = some vc
  first : ∀ l, l < 16 → cs[2 + l]? = some (.int .i64 (firstN ls k l : Nat))
  many : ∀ l, l < 16 → cs[18 + l]? = some (.int .i64 (cn (ls.take k) l : Nat))
  syms : ∀ l, l < 16 → cs[34 + l]? = some (sv l)
theorem Cells.start (ls : List Nat) (vl vc : Value) : Cells ls 0 vl vc (fun _ => .slice none 0 0)
    #[vl, vc, .int .i64 0, .int .i64 0, .int .i64 0, .int .i64 0, .int .i64 0, .int .i64 0, .int .i64 0, .int .i64 0, .int .i64 0, .int .i64 0, .int .i64 0, .int .i64 0, .int .i64 0, .int .i64 0, .int .i64 0, .int .i64 0,
      .int .i64 0, .int .i64 0, .int .i64 0, .int .i64 0, .int .i64 0, .int .i64 0, .int .i64 0, .int .i64 0, .int .i64 0, .int .i64 0, .int .i64 0, .int .i64 0, .int .i64 0, .int .i64 0, .int .i64 0, .int .i64 0,
      .slice none 0 0, .slice none 0 0, .slice none 0 0, .slice none 0 0, .slice none 0 0, .slice none 0 0, .slice none 0 0, .slice none 0 0, .slice none 0 0, .slice none 0 0, .slice none 0 0, .slice none 0 0, .slice none 0 0, .slice none 0 0, .slice none 0 0, .slice none 0 0] := by
  have hc : ∀ l, cn (ls.take 0) l = 0 := by intro l; simp [cn, cnt_nil]
  have hf : ∀ l, firstN ls 0 l = 0 := by intro l; unfold firstN; rw [if_pos (hc l)]
  refine ⟨rfl, rfl, rfl, fun l hl => ?_, fun l hl => ?_, fun l hl => ?_⟩
  · rw [hf]
    have : l = 0 ∨ l = 1 ∨ l = 2 ∨ l = 3 ∨ l = 4 ∨ l = 5 ∨ l = 6 ∨ l = 7 ∨ l = 8 ∨ l = 9 ∨ l = 10 ∨ l = 11 ∨ l = 12 ∨ l = 13 ∨ l = 14 ∨ l = 15 := by omega
    rcases this with rfl | rfl | rfl | rfl | rfl | rfl | rfl | rfl | rfl | rfl | rfl | rfl | rfl | rfl | rfl | rfl <;> rfl
  · rw [hc]
    have : l = 0 ∨ l = 1 ∨ l = 2 ∨ l = 3 ∨ l = 4 ∨ l = 5 ∨ l = 6 ∨ l = 7 ∨ l = 8 ∨ l = 9 ∨ l = 10 ∨ l = 11 ∨ l = 12 ∨ l = 13 ∨ l = 14 ∨ l = 15 := by omega
    rcases this with rfl | rfl | rfl | rfl | rfl | rfl | rfl | rfl | rfl | rfl | rfl | rfl | rfl | rfl | rfl | rfl <;> rfl
  · have : l = 0 ∨ l = 1 ∨ l = 2 ∨ l = 3 ∨ l = 4 ∨ l = 5 ∨ l = 6 ∨ l = 7 ∨ l = 8 ∨ l = 9 ∨ l = 10 ∨ l = 11 ∨ l = 12 ∨ l = 13 ∨ l = 14 ∨ l = 15 := by omega
    rcases this with rfl | rfl | rfl | rfl | rfl | rfl | rfl | rfl | rfl | rfl | rfl | rfl | rfl | rfl | rfl | rfl <;> rfl
theorem Cells.skip {ls : List Nat} {k : Nat} {vl vc : Value} {sv : Nat → Value} {cs : Array Value} (h : Cells ls k vl vc sv cs) (hx : ls[k]? = some 0) : Cells ls (k + 1) vl vc sv cs := by
  refine ⟨h.size, h.lens, h.codes, fun l hl => ?_, fun l hl => ?_, h.syms⟩
  · rw [h.first l hl]; unfold firstN; rw [cn_take_zero hx]
  · rw [h.many l hl, cn_take_zero hx]
theorem Cells.next {ls : List Nat} {k x c : Nat} {vl vc v : Value} {sv : Nat → Value} {cs : Array Value} (h : Cells ls k vl vc sv cs) (hx : ls[k]? = some x) (h0 : x ≠ 0) (h15 : x ≤ 15) (hc : cn (ls.take k) x = c) (hne : c ≠ 0) :
    Cells ls (k + 1) vl vc (upd sv x v) ((cs.setIfInBounds (18 + x) (.int .i64 ((c + 1 : Nat) : Int))).setIfInBounds (34 + x) v) := by
  have hs := h.size
  refine ⟨by simpa using hs, ?_, ?_, fun l hl => ?_, fun l hl => ?_, fun l hl => ?_⟩
  · rw [Array.getElem?_setIfInBounds_ne (by omega), Array.getElem?_setIfInBounds_ne (by omega), h.lens]
  · rw [Array.getElem?_setIfInBounds_ne (by omega), Array.getElem?_setIfInBounds_ne (by omega), h.codes]
  · rw [Array.getElem?_setIfInBounds_ne (by omega), Array.getElem?_setIfInBounds_ne (by omega), h.first l hl]
    unfold firstN
    rw [cn_take_succ hx h0]
    by_cases e : x = l
    · subst e; rw [if_neg (by omega), if_neg (by simp)]
    · rw [if_neg e]; rfl
  · rw [Array.getElem?_setIfInBounds_ne (by omega), Array.getElem?_setIfInBounds, cn_take_succ hx h0]
    by_cases e : x = l
    · subst e; rw [if_pos rfl, if_pos (by omega), if_pos rfl, hc]
    · rw [if_neg (by omega), if_neg e, h.many l hl]; rfl
  · rw [Array.getElem?_setIfInBounds]
    unfold upd
    by_cases e : x = l
    · subst e; rw [if_pos rfl, if_pos (by simp; omega), if_pos rfl]
    · rw [if_neg (by omega), if_neg (Ne.symm e), Array.getElem?_setIfInBounds_ne (by omega), h.syms l hl]
theorem Cells.fresh {ls : List Nat} {k x : Nat} {vl vc v : Value} {sv : Nat → Value} {cs : Array Value} (h : Cells ls k vl vc sv cs) (hx : ls[k]? = some x) (h0 : x ≠ 0) (h15 : x ≤ 15) (hc : cn (ls.take k) x = 0) :
    Cells ls (k + 1) vl vc (upd sv x v) (((cs.setIfInBounds (2 + x) (.int .i64 (code ls k : Nat))).setIfInBounds (18 + x) (.int .i64 ((0 + 1 : Nat) : Int))).setIfInBounds (34 + x) v) := by
  have hs := h.size
  have hcode : code ls k = fst ls x := by
    rw [code_of hx h0]
    unfold cn at hc
    rw [if_neg h0] at hc
    omega
  refine ⟨by simpa using hs, ?_, ?_, fun l hl => ?_, fun l hl => ?_, fun l hl => ?_⟩
  · rw [Array.getElem?_setIfInBounds_ne (by omega), Array.getElem?_setIfInBounds_ne (by omega), Array.getElem?_setIfInBounds_ne (by omega), h.lens]
  · rw [Array.getElem?_setIfInBounds_ne (by omega), Array.getElem?_setIfInBounds_ne (by omega), Array.getElem?_setIfInBounds_ne (by omega), h.codes]
  · rw [Array.getElem?_setIfInBounds_ne (by omega), Array.getElem?_setIfInBounds_ne (by omega), Array.getElem?_setIfInBounds]
    unfold firstN
    rw [cn_take_succ hx h0]
    by_cases e : x = l
    · subst e; rw [if_pos rfl, if_pos (by omega), if_neg (by simp), hcode]
    · rw [if_neg (by omega), h.first l hl, if_neg e]; rfl
  · rw [Array.getElem?_setIfInBounds_ne (by omega), Array.getElem?_setIfInBounds, cn_take_succ hx h0]
    by_cases e : x = l
    · subst e; rw [if_pos rfl, if_pos (by simp; omega), if_pos rfl, hc]
    · rw [if_neg (by omega), if_neg e, Array.getElem?_setIfInBounds_ne (by omega), h.many l hl]; rfl
  · rw [Array.getElem?_setIfInBounds]
    unfold upd
    by_cases e : x = l
    · subst e; rw [if_pos rfl, if_pos (by simp; omega), if_pos rfl]
    · rw [if_neg (by omega), if_neg (Ne.symm e), Array.getElem?_setIfInBounds_ne (by omega), Array.getElem?_setIfInBounds_ne (by omega), h.syms l hl]
structure Rows (w : World) (base : Nat) (ls : List Nat) (k : Nat) (sv : Nat → Value) : Prop where
  own : ∀ l, l < 16 → w.ownsRow base 3 1 (sv l) (cn (ls.take k) l) (numL .i64 (symsN (ls.take k) l))
  apart : ∀ l m x, l < 16 → m < 16 → l ≠ m → (sv l).ownBlock = some x → (sv m).ownBlock ≠ some x
theorem Rows.start (w : World) (base : Nat) (ls : List Nat) : Rows w base ls 0 (fun _ => .slice none 0 0) := by
  refine ⟨fun l hl => ?_, fun l m x _ _ _ h => by cases h⟩
  have h1 : cn (ls.take 0) l = 0 := by simp [cn, cnt_nil]
  have h2 : symsN (ls.take 0) l = [] := by unfold symsN; split <;> rfl
  rw [h1, h2]
  exact World.ownsRow_nil _ _ _ _
theorem Rows.kept {w w' : World} {base k : Nat} {ls : List Nat} {sv : Nat → Value} (h : Rows w base ls k sv) (hk : ∀ l x, l < 16 → (sv l).ownBlock = some x → w'.heap[x]? = w.heap[x]?) : Rows w' base ls k sv :=
  ⟨fun l hl => own_kept (h.own l hl) (fun x hx => hk l x hl hx), h.apart⟩
theorem Rows.alloc {w : World} {base k : Nat} {ls : List Nat} {sv : Nat → Value} (h : Rows w base ls k sv) (o : Obj) : Rows (w.alloc o) base ls k sv := ⟨fun l hl => (h.own l hl).alloc o, h.apart⟩
theorem Rows.drew {w : World} {base k : Nat} {ls : List Nat} {sv : Nat → Value} (h : Rows w base ls k sv) : Rows w.drew base ls k sv := ⟨h.own, h.apart⟩
theorem Rows.set {w : World} {base k g : Nat} {ls : List Nat} {sv : Nat → Value} {t : TypeId} {cs : Array Value} (h : Rows w base ls k sv) (hg : Blk w g t cs) (ht : 3 ≠ t) (i : Nat) (u : Value) : Rows (w.setCell ⟨g, i, none⟩ u) base ls k sv :=
  h.kept fun l x hl hx => Below.heap_setCell w _ u x (fun e => own_blk (h.own l hl) hg ht (by rw [hx, e]))
theorem Rows.skip {w : World} {base k : Nat} {ls : List Nat} {sv : Nat → Value} (h : Rows w base ls k sv) (hx : ls[k]? = some 0) : Rows w base ls (k + 1) sv :=
  ⟨fun l hl => by rw [cn_take_zero hx, symsN_take_zero hx]; exact h.own l hl, h.apart⟩
theorem Rows.push {w w3 : World} {base k x c g3 cap : Nat} {ls : List Nat} {sv : Nat → Value} (h : Rows w base ls k sv) (hx : ls[k]? = some x) (h0 : x ≠ 0) (h15 : x ≤ 15) (hc : cn (ls.take k) x = c)
    (hown : w3.ownsRow base 3 1 (.slice (some ⟨g3, 0, none⟩) (c + 1) cap) (c + 1) (numL .i64 (symsN (ls.take k) x) ++ [.int .i64 (k : Nat)])) (hg : w.grownBy w3 (sv x).ownBlock) (hat : (sv x).ownBlock = some g3 ∨ g3 = w.heap.size) :
    Rows w3 base ls (k + 1) (upd sv x (.slice (some ⟨g3, 0, none⟩) (c + 1) cap)) := by
  refine ⟨fun l hl => ?_, fun a b y ha hb hab hy => ?_⟩
  · rw [cn_take_succ hx h0, symsN_take_succ hx h0]
    unfold upd
    by_cases e : l = x
    · subst e
      rw [if_pos rfl, if_pos rfl, if_pos rfl, hc]
      simpa [numL] using hown
    · rw [if_neg e, if_neg (Ne.symm e), if_neg (Ne.symm e), List.append_nil]
      refine (h.own l hl).kept hg ?_
      cases hb : (sv l).ownBlock with
      | none => exact .inl rfl
      | some y => exact .inr (fun e2 => h.apart l x y hl (by omega) e hb e2.symm)
  · unfold upd at hy ⊢
    by_cases e1 : a = x
    · subst e1
      rw [if_pos rfl] at hy
      rw [if_neg (Ne.symm hab)]
      have hy : g3 = y := by simpa [Value.ownBlock] using hy
      subst hy
      rcases hat with h1 | h1
      · exact h.apart a b g3 ha hb hab h1
      · intro h2
        have := (World.ownsRow.lt (h.own b hb) g3 h2).2
        omega
    · rw [if_neg e1] at hy
      by_cases e2 : b = x
      · subst e2
        rw [if_pos rfl]
        intro h2
        have h2 : g3 = y := by simpa [Value.ownBlock] using h2
        subst h2
        rcases hat with h1 | h1
        · exact h.apart a b g3 ha hb hab hy h1
        · have := (World.ownsRow.lt (h.own a ha) g3 hy).2
          omega
      · rw [if_neg e2]
        exact h.apart a b y ha hb hab hy
end Go.Proofs.YtmgjgkdbagbleaaGreatDoor.Huff
namespace Go.Proofs.YtmgjgkdbagbleaaGreatDoor.Huff
open Go.RowKit Go.Proofs.YtmgjgkdbagbleaaGreatDoor.Mem Go.Proofs.YtmgjgkdbagbleaaGreatDoor.Canon Go.Proofs.YtmgjgkdbagbleaaGreatDoor.Own
def RowIn (w : World) (lo B : Nat) (A : Option Addr) (n s : Nat) (f : Nat → Nat → Value) : Prop :=
  0 < n → ∃ b off, A = some ⟨b, off, none⟩ ∧ (lo ≤ b ∧ b < B) ∧ ∀ i j, i < n → j < s → w.cell? ⟨b, off + (i * s + j), none⟩ = some (f i j)
section
variable {w w' : World} {lo lo' B B' n s : Nat} {A : Option Addr} {f g : Nat → Nat → Value}
theorem RowIn.row (h : RowIn w lo B A n s f) : Row w B A n s f := fun hn => by
  obtain ⟨b, off, e, hb, hc⟩ := h hn
  exact ⟨b, off, e, hb.2, hc⟩
theorem RowIn.keep (h : RowIn w lo B A n s f) (hk : ∀ p : Addr, lo ≤ p.block → p.block < B → w'.cell? p = w.cell? p) : RowIn w' lo B A n s f := fun hn => by
  obtain ⟨b, off, e, hb, hc⟩ := h hn
  exact ⟨b, off, e, hb, fun i j hi hj => (hk _ hb.1 hb.2).trans (hc i j hi hj)⟩
theorem RowIn.mono (h : RowIn w lo B A n s f) (hl : lo' ≤ lo) (hB : B ≤ B') : RowIn w lo' B' A n s f := fun hn => by
  obtain ⟨b, off, e, hb, hc⟩ := h hn
  exact ⟨b, off, e, ⟨by omega, by omega⟩, hc⟩
theorem RowIn.of_own {base : Nat} {e : TypeId} {v : Value} {xs : List Value} {c : Nat} (h : w.ownsRow base e s v n xs) (hv : v = .slice A n c) (hf : ∀ i j, i < n → j < s → xs[i * s + j]? = some (f i j)) : RowIn w base w.heap.size A n s f := fun hn => by
  rcases h.2 with ⟨_, h0⟩ | ⟨g, cap, cur, hv', hb, hh, hnc, _, hcs, htake⟩
  · omega
  · rw [hv] at hv'
    injection hv' with e1 e2 e3
    refine ⟨g, 0, e1, ⟨hb, Blk.lt hh⟩, fun i j hi hj => ?_⟩
    rw [Nat.zero_add, Blk.cell hh]
    have := hf i j hi hj
    rw [← htake, List.getElem?_take] at this
    split at this
    · simpa using this
    · cases this
theorem RowIn.of_blk {t : TypeId} {cs : Array Value} {b : Nat} (h : Blk w b t cs) (hl : lo ≤ b) (hB : b < B) (hf : ∀ i j, i < n → j < s → cs[i * s + j]? = some (f i j)) : RowIn w lo B (some ⟨b, 0, none⟩) n s f :=
  fun _ => ⟨b, 0, rfl, ⟨hl, hB⟩, fun i j hi hj => by rw [Nat.zero_add, h.cell]; exact hf i j hi hj⟩
end
theorem numL_get {k : IntKind} {ls : List Nat} {i : Nat} (h : i < ls.length) : (numL k ls)[i * 1 + 0]? = some (numF k ls i 0) := by
  simp [numL, numF, List.getD_eq_getElem?_getD, h]
structure Coder (w : World) (lo B g : Nat) (ls : List Nat) : Prop where
  ge : lo ≤ g
  lt : g < B
  free : ∀ i, w.frozen? ⟨g, i, none⟩ = false
  lens : ∃ A c, w.cell? ⟨g, 0, none⟩ = some (.slice A ls.length c) ∧ RowIn w lo B A ls.length 1 (numF .u8 ls)
  codes : ∃ A c, w.cell? ⟨g, 1, none⟩ = some (.slice A ls.length c) ∧ RowIn w lo B A ls.length 1 (fun i _ => .int .u16 (codeW ls i : Nat))
  first : ∀ l, l < 16 → w.cell? ⟨g, 2 + l, none⟩ = some (.int .i64 (firstN ls ls.length l : Nat))
  many : ∀ l, l < 16 → w.cell? ⟨g, 18 + l, none⟩ = some (.int .i64 (cn ls l : Nat))
  syms : ∀ l, l < 16 → ∃ A c, w.cell? ⟨g, 34 + l, none⟩ = some (.slice A (cn ls l) c) ∧ RowIn w lo B A (cn ls l) 1 (numF .i64 (symsN ls l))
theorem Coder.keep {w w' : World} {lo B g : Nat} {ls : List Nat} (h : Coder w lo B g ls) (hk : ∀ b, lo ≤ b → b < B → w'.heap[b]? = w.heap[b]?) : Coder w' lo B g ls := by
  have hg := hk g h.ge h.lt
  have hc : ∀ p : Addr, lo ≤ p.block → p.block < B → w'.cell? p = w.cell? p := fun p h1 h2 => World.cell?_of_block (hk p.block h1 h2)
  have hc0 : ∀ i, w'.cell? ⟨g, i, none⟩ = w.cell? ⟨g, i, none⟩ := fun i => World.cell?_of_block (a := ⟨g, i, none⟩) hg
  refine ⟨h.ge, h.lt, fun i => (World.frozen?_of_block (a := ⟨g, i, none⟩) hg).trans (h.free i), ?_, ?_, fun l hl => (hc0 _).trans (h.first l hl), fun l hl => (hc0 _).trans (h.many l hl), fun l hl => ?_⟩
  · obtain ⟨A, c, h1, h2⟩ := h.lens
    exact ⟨A, c, (hc0 _).trans h1, h2.keep hc⟩
  · obtain ⟨A, c, h1, h2⟩ := h.codes
    exact ⟨A, c, (hc0 _).trans h1, h2.keep hc⟩
  · obtain ⟨A, c, h1, h2⟩ := h.syms l hl
    exact ⟨A, c, (hc0 _).trans h1, h2.keep hc⟩
theorem Coder.below {w w' : World} {lo B g : Nat} {ls : List Nat} (h : Coder w lo B g ls) {C : Nat} (hb : Below C w w') (hC : B ≤ C) : Coder w' lo B g ls :=
  h.keep fun b _ h2 => hb.block b (by omega)
theorem Coder.mono {w : World} {lo lo' B B' g : Nat} {ls : List Nat} (h : Coder w lo B g ls) (hl : lo' ≤ lo) (hB : B ≤ B') : Coder w lo' B' g ls := by
  refine ⟨by have := h.ge; omega, by have := h.lt; omega, h.free, ?_, ?_, h.first, h.many, fun l hx => ?_⟩
  · obtain ⟨A, c, h1, h2⟩ := h.lens
    exact ⟨A, c, h1, h2.mono hl hB⟩
  · obtain ⟨A, c, h1, h2⟩ := h.codes
    exact ⟨A, c, h1, h2.mono hl hB⟩
  · obtain ⟨A, c, h1, h2⟩ := h.syms l hx
    exact ⟨A, c, h1, h2.mono hl hB⟩
theorem coder_of {w w2 wr : World} {lo g gc n c2 : Nat} {ls : List Nat} {A2 : Option Addr} {sv : Nat → Value} {cs arr : Array Value} (hn : ls.length = n) (hlo : lo ≤ w.heap.size) (z1 : w.heap.size ≤ g) (hg : g = w2.heap.size)
    (blk : Blk wr g 338 cs) (hC : Cells ls n (.slice A2 n c2) (.slice (some ⟨gc, 0, none⟩) n n) sv cs) (hR : Rows wr (g + 1) ls n sv) (rbel : Below g w2 wr)
    (hown2 : w2.ownsRow w.heap.size 5 1 (.slice A2 n c2) n (numL .u8 ls)) (bc2 : Blk w2 gc 37 arr) (hgc : lo ≤ gc) (hW : Wds ls n n arr) : Coder wr lo wr.heap.size g ls := by
  subst hn hg
  have rz := rbel.size
  have htk : ls.take ls.length = ls := List.take_of_length_le (Nat.le_refl _)
  refine ⟨by omega, blk.lt, blk.frozen, ⟨A2, c2, (blk.cell 0).trans hC.lens, ?_⟩, ⟨some ⟨gc, 0, none⟩, ls.length, (blk.cell 1).trans hC.codes, ?_⟩, fun l hl => (blk.cell _).trans (hC.first l hl), fun l hl => ?_, fun l hl => ?_⟩
  · have := RowIn.of_own (f := numF .u8 ls) hown2 rfl (fun i j hi hj => by have e0 : j = 0 := (by omega); subst e0; exact numL_get hi)
    exact (this.keep (fun p _ h2 => rbel.cell h2)).mono hlo rz
  · have := RowIn.of_blk (n := ls.length) (s := 1) (lo := lo) (B := w2.heap.size) (f := fun i _ => .int .u16 (codeW ls i : Nat)) bc2 hgc bc2.lt (fun i j hi hj => by
      obtain rfl : j = 0 := by omega
      rw [Nat.mul_one, Nat.add_zero, hW.2 i hi, if_pos hi])
    exact (this.keep (fun p _ h2 => rbel.cell h2)).mono (Nat.le_refl _) rz
  · have := hC.many l hl
    rw [htk] at this
    exact (blk.cell _).trans this
  · have h1 := hR.own l hl
    rw [htk] at h1
    obtain ⟨A, c, e⟩ := own_shape h1
    have h2 := hC.syms l hl
    rw [e] at h2
    refine ⟨A, c, (blk.cell _).trans h2, ?_⟩
    exact (RowIn.of_own (f := numF .i64 (symsN ls l)) h1 e (fun i j hi hj => by have e0 : j = 0 := (by omega); subst e0; exact numL_get (by rw [symsN_length]; exact hi))).mono (by omega) (Nat.le_refl _)
end Go.Proofs.YtmgjgkdbagbleaaGreatDoor.Huff
namespace Go.Proofs.YtmgjgkdbagbleaaGreatDoor.Huff
open Go.RowKit Go.Proofs.YtmgjgkdbagbleaaGreatDoor.Mem Go.Proofs.YtmgjgkdbagbleaaGreatDoor.Canon Go.Proofs.YtmgjgkdbagbleaaGreatDoor.Own
theorem info_int : (Tryz.prog.info? 3).map (fun i => (i.zero, i.size, i.bytes)) = some (some (.int .i64 0), 1, 8) := by kernel_rfl
def NewPost (ls : List Nat) (w : World) (e : Ending) (w' : World) : Prop :=
  ∃ g, e = .returned (.tuple #[.pointer (some ⟨g, 0, none⟩), .int .i64 0]) ∧ Coder w' w.heap.size w'.heap.size g ls ∧ Below w.heap.size w w'
set_option maxHeartbeats 1000000 in
set_option maxRecDepth 100000 in
theorem new_any (w : World) (A : Option Addr) (n c : Nat) (ls : List Nat) (hn : ls.length = n) (hok : okB ls = true) (hnil : A = none → n = 0 ∧ c = 0) (ha : Row w w.heap.size A n 1 (numF .u8 ls)) :
    Calls Tryz.prog 279 #[.slice A n c] w (NewPost ls w) := by
  obtain ⟨hlen, hsm, _⟩ := ok_parts hok
  rw [hn] at hlen
  have C1 := Lib.hid (codes_any w A n c ls hn hok ha)
  have C2 := Lib.hid (fun wx (h : Row wx wx.heap.size A n 1 (numF .u8 ls)) => clone_u8 wx A n c ls hn (by omega) hnil h)
  have HN := Lib.hid hn
  have HSM := Lib.hid hsm
  have HOK := Lib.hid hok
  obtain ⟨j0, hj0, hy0, hy1, hy2⟩ := info_parts info_int
  clear hn hok hsm hnil
  go_enter Tryz.func279, Tryz.ntmps279
  go_wp2_with fail
  refine C1.out.mono ?_
  rintro e w1 ⟨gc, arr, rfl, bc, hw, hgc, hb1⟩
  have z1 := hb1.size
  go_wp2_with fail
  refine (C2.out _ ((ha.below hb1).mono z1)).mono ?_
  rintro e w2 ⟨vl, rfl, hown2, hb2⟩
  have z2 := hb2.size
  have bc2 := bc.step hb2
  have hbel2 : Below w.heap.size w w2 := bel_step hb2 z1 hb1
  have HW := Lib.hid hw
  have hgc2 := bc2.lt
  have ha2 := (ha.below hbel2).mono hbel2.size
  clear hw bc C1 C2
  obtain ⟨A2, c2, rfl⟩ := own_shape hown2
  go_wp2_with fail
  go_loopw [25] (fun i wr => ∃ (k : Nat) (sv : Nat → Value) (cs : Array Value), k ≤ n ∧ i = .int .i64 k ∧ Blk wr w2.heap.size 338 cs ∧ Hid (Cells ls k (.slice A2 n c2) (.slice (some ⟨gc, 0, none⟩) n n) sv cs) ∧ Hid (Rows wr (w2.heap.size + 1) ls k sv) ∧ Below w2.heap.size w2 wr) (fun i _ => n - (intOf i).toNat)
  case atStart => exact ⟨0, _, _, by omega, rfl, Blk.made _ _ _, Cells.start ls _ _, Rows.start _ _ _, bel_alloc0 (Below.refl _ _)⟩
  case round =>
    obtain ⟨k, sv, cs, hk, rfl, blk, hC, hR, rbel⟩ := hrel
    have rz := rbel.size
    by_cases hlt : k < n
    · obtain ⟨b, off, x, rfl, hbb, hx, c0⟩ := num_cell (ha2.below rbel) HN.out hlt
      have HX := Lib.hid hx
      have hx15 := HSM.out x (List.mem_of_getElem? hx)
      have x0 : (0 : Int) ≤ (k : Int) := by omega
      have x1 : (k : Int) < (n : Int) := by omega
      clear hx
      by_cases hx0 : x = 0
      · subst hx0
        go_wp2_with fail
        go_roundw
        case rel =>
          go_light
          exact ⟨k + 1, sv, cs, by omega, by go_num, blk, hC.out.skip HX.out, hR.out.skip HX.out, rbel⟩
        case measure => go_light; simp [intOf]; omega
      · have hcn := cn_le (ls.take k) x
        rw [List.length_take] at hcn
        have xp : 0 < x := by omega
        have y0 : (0 : Int) ≤ (x : Int) := by omega
        have y1 : (x : Int) < 16 := by omega
        have m0 := blk.cell (18 + x)
        rw [hC.out.many x (by omega)] at m0
        obtain ⟨q, hq⟩ : ∃ q, q = cn (ls.take k) x := ⟨_, rfl⟩
        rw [← hq] at m0 hcn
        have HQ := Lib.hid hq
        clear hq
        by_cases hq0 : q = 0
        · have hqt : ((q : Int) == 0) = true := by simp; omega
          have HQ0 := Lib.hid hq0
          clear hq0
          have d0 := (bc2.below rbel hgc2).cell k
          rw [HW.out.2 k hlt, if_pos hlt] at d0
          have f0 := blk.frozen (2 + x)
          have f1 := blk.cell (2 + x)
          rw [hC.out.first x (by omega)] at f1
          have hcl := code_lt HOK.out HX.out hx0
          have hcl2 : code ls k < 65536 := Nat.lt_of_lt_of_le hcl (by have : 2 ^ x ≤ 2 ^ 15 := Nat.pow_le_pow_right (by omega) hx15; omega)
          have hv : codeW ls k = code ls k := Nat.mod_eq_of_lt hcl2
          have hcells := fun v => hC.out.fresh (v := v) HX.out hx0 hx15 (HQ.out.symm.trans HQ0.out)
          rw [hv] at d0
          generalize code ls k = v at *
          have HCS := Lib.hid hcells
          clear hv hcells hcl
          go_upto_region 10 with fail
          go_region
          have blkA := (blk.set (2 + x) (.int .i64 (v : Nat))).drew
          have HCS2 : Hid (∀ v', Cells ls (k + 1) (.slice A2 n c2) (.slice (some ⟨gc, 0, none⟩) n n) (upd sv x v') (((cs.setIfInBounds (2 + x) (.int .i64 (v : Nat))).setIfInBounds (18 + x) (.int .i64 ((q : Int) + 1))).setIfInBounds (34 + x) v')) := by
            rw [HQ0.out]; exact HCS.out
          clear HCS
          have mcell : (cs.setIfInBounds (2 + x) (.int .i64 (v : Nat)))[18 + x]? = some (.int .i64 ((q : Nat) : Int)) := by
            rw [Array.getElem?_setIfInBounds_ne (by omega), hC.out.many x (by omega), ← HQ.out]
          have scell : (cs.setIfInBounds (2 + x) (.int .i64 (v : Nat)))[34 + x]? = some (sv x) := by
            rw [Array.getElem?_setIfInBounds_ne (by omega), hC.out.syms x (by omega)]
          have RA := Lib.hid ((hR.out.set blk (by decide) (2 + x) (.int .i64 (v : Nat))).drew)
          have belA := (bel_set (p := ⟨w2.heap.size, 2 + x, none⟩) (u := .int .i64 (v : Nat)) (Nat.le_refl _) rbel).drew
          have zA := belA.size
          clear m0 f0 f1 d0 c0 blk rbel rz
          generalize cs.setIfInBounds (2 + x) (.int .i64 (v : Nat)) = csA at *
          generalize (wr.setCell ⟨w2.heap.size, 2 + x, none⟩ (.int .i64 (v : Nat))).drew = wA at *
          have mA := blkA.cell (18 + x)
          rw [mcell] at mA
          have fA := blkA.frozen (18 + x)
          have s1 : IntKind.i64.wrap ((q : Int) + 1) = (q : Int) + 1 := IntWalk.i64_in _ (by omega)
          go_upto_region 11 with fail
          go_region
          clear s1 mA fA
          have blkB := (blkA.set (18 + x) (.int .i64 ((q : Int) + 1))).drew
          have RB := Lib.hid ((RA.out.set blkA (by decide) (18 + x) (.int .i64 ((q : Int) + 1))).drew)
          have belB := (bel_set (p := ⟨w2.heap.size, 18 + x, none⟩) (u := .int .i64 ((q : Int) + 1)) (Nat.le_refl _) belA).drew
          have zB := belB.size
          have sB := blkB.cell (34 + x)
          rw [Array.getElem?_setIfInBounds_ne (by omega), scell] at sB
          have fB := blkB.frozen (34 + x)
          have hown := RB.out.own x (by omega)
          rw [← HQ.out] at hown
          have hne := own_blk hown blkB (by decide)
          obtain ⟨AS, cS, hsv⟩ := own_shape hown
          have HSV := Lib.hid hsv
          rw [hsv] at sB hown hne
          clear mcell scell blkA RA belA zA hsv
          generalize (wA.setCell ⟨w2.heap.size, 18 + x, none⟩ (.int .i64 ((q : Int) + 1))).drew = wB at *
          have hgl := blkB.lt
          have hne2 : some w2.heap.size ≠ (Value.slice AS q cS).ownBlock := Ne.symm hne
          go_upto_region 12 with fail
          go_region_law ((refine step_append_lies _ (by rfl) _ _ _ (by rfl) (w2.heap.size + 1) 3 j0 _ 1 8 Tryz.underlying50 hj0 hy0 hy1 hy2 rfl (by omega) (.slice AS q cS) q (numL .i64 (symsN (ls.take k) x)) (by rfl) ((hown.alloc _).drew) ⟨wB.heap.size, 0, none⟩ 1 1 [.int .i64 (k : Nat)] (by rfl) (by rfl) (World.news_of_block (cs := #[.int .i64 (k : Nat)]) (t := 3) (fr := (0, 0)) (heap_alloc_new wB _)) (by intro u hu; simp at hu; subst hu; rfl) (by omega) (by unfold maxLen; omega) (by omega) (by simp; omega) (wB.heap.size + 1) (by simp) ?_; intro g3 cap3 w3 hown3 hgrow hat hlt3; have gb : w3.heap[w2.heap.size]? = wB.heap[w2.heap.size]? := (hgrow.block w2.heap.size (by simp; omega) hne2).trans (Below.heap_alloc wB _ w2.heap.size hgl); have p3 := (World.cell?_of_block (a := ⟨w2.heap.size, 34 + x, none⟩) gb).trans sB; have p4 := (World.frozen?_of_block (a := ⟨w2.heap.size, 34 + x, none⟩) gb).trans fB))
          all_goals
            go_wp2_with fail
            go_roundw
            case measure => go_light; simp [intOf]; omega
            case rel =>
              go_light
              have blk3 : Blk w3 w2.heap.size 338 _ := gb.trans blkB
              have hR3 := Rows.push ((RB.out.alloc _).drew) HX.out hx0 hx15 HQ.out.symm hown3 (by rw [HSV.out]; exact hgrow) (by rw [HSV.out]; simpa using hat)
              refine ⟨k + 1, _, _, by omega, by go_num, blk3.set _ _, HCS2.out _, hR3.set blk3 (by decide) _ _, bel_set (p := ⟨w2.heap.size, 34 + x, none⟩) (Nat.le_refl _) (((bel_alloc zB belB).drew).grown hgrow (by simp; omega) (fun y hy => ?_))⟩
              have := (World.ownsRow.lt hown y hy).1
              omega
        · have hqf : ((q : Int) == 0) = false := by simp; omega
          have hcells := fun v => hC.out.next (v := v) HX.out hx0 hx15 HQ.out.symm hq0
          have HCS2 : Hid (∀ v', Cells ls (k + 1) (.slice A2 n c2) (.slice (some ⟨gc, 0, none⟩) n n) (upd sv x v') ((cs.setIfInBounds (18 + x) (.int .i64 ((q : Int) + 1))).setIfInBounds (34 + x) v')) := hcells
          have mcell : cs[18 + x]? = some (.int .i64 ((q : Nat) : Int)) := by rw [hC.out.many x (by omega), ← HQ.out]
          have scell := hC.out.syms x (by omega)
          have RA := hR
          have belA := rbel
          have zA := rz
          have blkA := blk
          obtain ⟨wA, rfl⟩ : ∃ wA : World, wA = wr := ⟨_, rfl⟩
          clear blk rbel rz hcells hq0
          have mA := blkA.cell (18 + x)
          rw [mcell] at mA
          have fA := blkA.frozen (18 + x)
          have s1 : IntKind.i64.wrap ((q : Int) + 1) = (q : Int) + 1 := IntWalk.i64_in _ (by omega)
          go_upto_region 11 with fail
          go_region
          clear s1 mA fA
          have blkB := (blkA.set (18 + x) (.int .i64 ((q : Int) + 1))).drew
          have RB := Lib.hid ((RA.out.set blkA (by decide) (18 + x) (.int .i64 ((q : Int) + 1))).drew)
          have belB := (bel_set (p := ⟨w2.heap.size, 18 + x, none⟩) (u := .int .i64 ((q : Int) + 1)) (Nat.le_refl _) belA).drew
          have zB := belB.size
          have sB := blkB.cell (34 + x)
          rw [Array.getElem?_setIfInBounds_ne (by omega), scell] at sB
          have fB := blkB.frozen (34 + x)
          have hown := RB.out.own x (by omega)
          rw [← HQ.out] at hown
          have hne := own_blk hown blkB (by decide)
          obtain ⟨AS, cS, hsv⟩ := own_shape hown
          have HSV := Lib.hid hsv
          rw [hsv] at sB hown hne
          clear mcell scell blkA RA belA zA hsv
          generalize (wA.setCell ⟨w2.heap.size, 18 + x, none⟩ (.int .i64 ((q : Int) + 1))).drew = wB at *
          have hgl := blkB.lt
          have hne2 : some w2.heap.size ≠ (Value.slice AS q cS).ownBlock := Ne.symm hne
          go_upto_region 12 with fail
          go_region_law ((refine step_append_lies _ (by rfl) _ _ _ (by rfl) (w2.heap.size + 1) 3 j0 _ 1 8 Tryz.underlying50 hj0 hy0 hy1 hy2 rfl (by omega) (.slice AS q cS) q (numL .i64 (symsN (ls.take k) x)) (by rfl) ((hown.alloc _).drew) ⟨wB.heap.size, 0, none⟩ 1 1 [.int .i64 (k : Nat)] (by rfl) (by rfl) (World.news_of_block (cs := #[.int .i64 (k : Nat)]) (t := 3) (fr := (0, 0)) (heap_alloc_new wB _)) (by intro u hu; simp at hu; subst hu; rfl) (by omega) (by unfold maxLen; omega) (by omega) (by simp; omega) (wB.heap.size + 1) (by simp) ?_; intro g3 cap3 w3 hown3 hgrow hat hlt3; have gb : w3.heap[w2.heap.size]? = wB.heap[w2.heap.size]? := (hgrow.block w2.heap.size (by simp; omega) hne2).trans (Below.heap_alloc wB _ w2.heap.size hgl); have p3 := (World.cell?_of_block (a := ⟨w2.heap.size, 34 + x, none⟩) gb).trans sB; have p4 := (World.frozen?_of_block (a := ⟨w2.heap.size, 34 + x, none⟩) gb).trans fB))
          all_goals
            go_wp2_with fail
            go_roundw
            case measure => go_light; simp [intOf]; omega
            case rel =>
              go_light
              have blk3 : Blk w3 w2.heap.size 338 _ := gb.trans blkB
              have hR3 := Rows.push ((RB.out.alloc _).drew) HX.out hx0 hx15 HQ.out.symm hown3 (by rw [HSV.out]; exact hgrow) (by rw [HSV.out]; simpa using hat)
              refine ⟨k + 1, _, _, by omega, by go_num, blk3.set _ _, HCS2.out _, hR3.set blk3 (by decide) _ _, bel_set (p := ⟨w2.heap.size, 34 + x, none⟩) (Nat.le_refl _) (((bel_alloc zB belB).drew).grown hgrow (by simp; omega) (fun y hy => ?_))⟩
              have := (World.ownsRow.lt hown y hy).1
              omega
    · obtain rfl : k = n := by omega
      go_wp2_with fail
      go_ret2
      exact ⟨w2.heap.size, rfl, coder_of HN.out z1 z2 rfl blk hC.out hR.out rbel hown2 bc2 hgc HW.out, hbel2.trans (rbel.mono hbel2.size)⟩
end Go.Proofs.YtmgjgkdbagbleaaGreatDoor.Huff
namespace Go.Proofs.YtmgjgkdbagbleaaGreatDoor.Huff
open Go.RowKit Go.Proofs.YtmgjgkdbagbleaaGreatDoor.Mem Go.Proofs.YtmgjgkdbagbleaaGreatDoor.Canon Go.Proofs.YtmgjgkdbagbleaaGreatDoor.Own
theorem Coder.len {w : World} {lo B gc : Nat} {ls : List Nat} (hC : Coder w lo B gc ls) (hsm : ∀ x ∈ ls, x ≤ 15) (s : Int) (hs : -9223372036854775808 ≤ s ∧ s ≤ 9223372036854775807) :
    Calls Tryz.prog 280 #[.pointer (some ⟨gc, 0, none⟩), .int .i64 s] w fun e w' => e = .returned (.int .i64 (lenAt ls s : Nat)) ∧ w = w' := by
  obtain ⟨A, c, h1, h2⟩ := hC.lens
  exact len_any w gc B A ls.length c ls s rfl hs (fun x hx => by have := hsm x hx; omega) h1 h2.row
theorem Coder.drew {w : World} {lo B g : Nat} {ls : List Nat} (h : Coder w lo B g ls) : Coder w.drew lo B g ls := h.keep fun _ _ _ => rfl
theorem Coder.kept {K : Nat → Prop} {w w' : World} {lo B g : Nat} {ls : List Nat} (h : Coder w lo B g ls) (hk : Kept K w w') (hK : ∀ k, lo ≤ k → k < B → K k) : Coder w' lo B g ls := h.keep fun b h1 h2 => hk.block b (hK b h1 h2)
set_option maxRecDepth 100000 in
theorem cput_any (K : Nat → Prop) (w : World) (lo B gc : Nat) (ls : List Nat) (g base : Nat) (t : TypeId) (rest : List Value) (v : Value) (bs : List Bool) (s : Int) (hs : -9223372036854775808 ≤ s ∧ s ≤ 9223372036854775807)
    (hok : okB ls = true) (hC : Coder w lo B gc ls) (hK : ∀ k, lo ≤ k → k < B → K k) (h0 : lenAt ls s ≠ 0) (hle : bs.length ≤ 5000000) (hW : Wr K w base g t rest bs v) :
    Calls Tryz.prog 251 #[.pointer (some ⟨gc, 0, none⟩), .pointer (some ⟨g, 0, none⟩), .int .i64 s] w
      fun e w' => e = .returned (.int .i64 0) ∧ ∃ v', Wr K w' base g t rest (bs ++ word ls s.toNat) v' ∧ Kept K w w' := by
  obtain ⟨hlen, hsm, _⟩ := ok_parts hok
  obtain ⟨m, x, rfl, hx, hx0⟩ := lenAt_pos h0
  have hx15 := hsm x (List.mem_of_getElem? hx)
  have hm := (List.getElem?_eq_some_iff.1 hx).1
  have hl : lenAt ls (m : Int) = x := by unfold lenAt; rw [if_neg (by omega)]; simp [List.getD_eq_getElem?_getD, hx]
  have hword : word ls m = msb (code ls m) x x := by unfold word; simp [List.getD_eq_getElem?_getD, hx]
  have hcl := code_lt hok hx hx0
  have hcl2 : code ls m < 65536 := Nat.lt_of_lt_of_le hcl (by have : 2 ^ x ≤ 2 ^ 15 := Nat.pow_le_pow_right (by omega) hx15; omega)
  have hcw : codeW ls m = code ls m := Nat.mod_eq_of_lt hcl2
  have C1 := Lib.hid (hC.len hsm (m : Int) hs)
  have C2 := Lib.hid (hC.drew.len hsm (m : Int) hs)
  have C3 := Lib.hid (put_any K w.drew g base t rest v bs (code ls m) x hcl (by omega) (by omega) hW.drew)
  rw [hl] at C1 C2
  rw [← hword] at C3
  rw [Int.toNat_natCast]
  obtain ⟨AC, cC, d0, hrow⟩ := hC.codes
  obtain ⟨bC, oC, rfl, hbC, hcell⟩ := hrow (by omega)
  have KG : Hid (K gc) := hK gc hC.ge hC.lt
  have KB : Hid (K bC) := hK bC hbC.1 hbC.2
  have d1 : w.cell? ⟨bC, oC + m, none⟩ = some (.int .u16 (code ls m : Nat)) := by
    have := hcell m 0 hm (by omega)
    simpa [hcw] using this
  generalize code ls m = cd at *
  generalize ls.length = n at *
  clear hsm hok hx hl hword hcl hcw hcell hrow hC h0 hW hbC hK
  go_enter Tryz.func251, Tryz.ntmps251
  go_wp2_with fail
  refine C1.out.mono ?_
  rintro e w1 ⟨rfl, rfl⟩
  have x0 : (0 : Int) ≤ (m : Int) := by omega
  have x1 : (m : Int) < (n : Int) := by omega
  have hu : IntKind.u64.wrap (cd : Int) = (cd : Int) := by rw [IntKind.wrap_u64]; omega
  rw [← hu] at C3
  clear hu
  go_upto_region 5 with fail
  go_region_held3 (fun wx => wx.cell? ⟨gc, 1, none⟩ = some (.slice (some ⟨bC, oC, none⟩) n cC) ∧ wx.cell? ⟨bC, oC + m, none⟩ = some (.int .u16 cd)) (first | exact ⟨d0, d1⟩ | exact ⟨k0, k1⟩) (first | (go_at_call 280; (with_reducible refine C2.out.mono ?_); rintro e w' ⟨rfl, rfl⟩) | (go_at_call 214; (with_reducible refine C3.out.mono ?_); rintro e w' ⟨rfl, v2, hW2, hk2⟩; have k0 : w'.cell? ⟨gc, 1, none⟩ = some (.slice (some ⟨bC, oC, none⟩) n cC) := (World.cell?_of_block (a := ⟨gc, 1, none⟩) (hk2.block gc KG.out)).trans d0; have k1 : w'.cell? ⟨bC, oC + m, none⟩ = some (.int .u16 cd) := (World.cell?_of_block (a := ⟨bC, oC + m, none⟩) (hk2.block bC KB.out)).trans d1))
  have HW2 := Lib.hid hW2
  have HK2 := Lib.hid hk2
  clear hW2 hk2 k0 k1 C1 C2 C3
  go_wp2_with fail
  go_ret
  exact ⟨rfl, v2, HW2.out, (Kept.refl K w).drew.trans HK2.out⟩
end Go.Proofs.YtmgjgkdbagbleaaGreatDoor.Huff
namespace Go.Proofs.YtmgjgkdbagbleaaGreatDoor.Huff
open Go.RowKit Go.Proofs.YtmgjgkdbagbleaaGreatDoor.Mem Go.Proofs.YtmgjgkdbagbleaaGreatDoor.Canon Go.Proofs.YtmgjgkdbagbleaaGreatDoor.Own
def Rd (w : World) (lo g : Nat) (bs : List Bool) (at_ : Nat) : Prop :=
  ∃ (A : Option Addr) (n c : Nat) (ls : List Nat), Blk w g 381 #[.slice A n c, .int .i64 ((8 * n : Nat) : Int), .int .i64 at_] ∧ RowIn w lo g A n 1 (numF .u8 ls) ∧ ls.length = n ∧ (∀ x ∈ ls, x ≤ 255) ∧ bs = rbits ls ∧ at_ ≤ 8 * n ∧ n ≤ 100000
theorem Rd.keep {w w' : World} {lo g at_ : Nat} {bs : List Bool} (h : Rd w lo g bs at_) (hk : ∀ b, lo ≤ b → b ≤ g → w'.heap[b]? = w.heap[b]?) (hlo : lo ≤ g) : Rd w' lo g bs at_ := by
  obtain ⟨A, n, c, ls, h1, h2, h3⟩ := h
  exact ⟨A, n, c, ls, (hk g hlo (Nat.le_refl _)).trans h1, h2.keep (fun p ha hb => World.cell?_of_block (hk p.block ha (by omega))), h3⟩
theorem Rd.drew {w : World} {lo g at_ : Nat} {bs : List Bool} (h : Rd w lo g bs at_) : Rd w.drew lo g bs at_ := h
theorem Rd.drewN {w : World} {lo g at_ : Nat} {bs : List Bool} (h : Rd w lo g bs at_) (q : Nat) : Rd (w.drewN q) lo g bs at_ := h
theorem Rd.moved {w : World} {lo g at_ k : Nat} {bs : List Bool} (h : Rd w lo g bs at_) (hk : at_ + k ≤ bs.length) : Rd (w.setCell ⟨g, 2, none⟩ (.int .i64 ((at_ : Int) + (k : Int)))) lo g bs (at_ + k) := by
  obtain ⟨A, n, c, ls, h1, h2, h3, h4, h5, h6, h7⟩ := h
  refine ⟨A, n, c, ls, ?_, h2.keep (fun p _ hb => World.cell?_of_block (Below.heap_setCell w _ _ _ (show p.block ≠ g by omega))), h3, h4, h5, ?_, h7⟩
  · have h := h1.set 2 (.int .i64 ((at_ : Int) + (k : Int)))
    simpa using h
  · rw [h5, rbits_length] at hk; omega
theorem Rd.lt {w : World} {lo g at_ : Nat} {bs : List Bool} (h : Rd w lo g bs at_) : g < w.heap.size := by
  obtain ⟨A, n, c, ls, h1, _⟩ := h
  exact h1.lt
theorem and_bit (y : Nat) (hy : y < 18446744073709551616) : bits .and .u64 (y : Int) 1 = ((y % 2 : Nat) : Int) := by
  have h := bits_and_u64_nat y 1 hy (by omega)
  rw [Nat.and_one_is_mod] at h
  exact h
theorem or_bit1 (x y : Nat) (hx : x < 9223372036854775808) (hy : y ≤ 1) : bits .or .u64 ((2 * x : Nat) : Int) (y : Int) = ((2 * x + y : Nat) : Int) := by
  rw [bits_or_u64_nat _ _ (by omega) (by omega)]
  congr 1
  have h := Nat.two_pow_add_eq_or_of_lt (b := y) (i := 1) (by omega) x
  rw [show 2 ^ 1 = 2 from rfl] at h
  exact h.symm
set_option maxRecDepth 100000 in
theorem bit_any (w : World) (g B : Nat) (A : Option Addr) (n c i : Nat) (ls : List Nat) (hn : ls.length = n) (hN : n ≤ 100000) (h8 : ∀ x ∈ ls, x ≤ 255) (hi : i < 8 * n) (hg : w.cell? ⟨g, 0, none⟩ = some (.slice A n c)) (ha : Row w B A n 1 (numF .u8 ls)) :
    Calls Tryz.prog 323 #[.pointer (some ⟨g, 0, none⟩), .int .i64 (i : Nat)] w fun e w' => e = .returned (.int .u64 (bit (rbits ls) i : Nat)) ∧ w = w' := by
  have hv := rbits_bit (ls := ls) (i := i) (by omega)
  obtain ⟨b, off, x, rfl, hb, hx, d0⟩ := num_cell ha hn (show i / 8 < n by omega)
  have hx255 := h8 x (List.mem_of_getElem? hx)
  have hxx : ls.getD (i / 8) 0 = x := by simp [List.getD_eq_getElem?_getD, hx]
  rw [hxx] at hv
  rw [hv]
  have x0 : (0 : Int) ≤ (i : Int) / 8 := by omega
  have x1 : (i : Int) / 8 < (n : Int) := by omega
  have x2 : (0 : Int) ≤ 7 - (i : Int) % 8 := by omega
  clear hv hxx hx h8 hn ha
  go_enter Tryz.func323, Tryz.ntmps323
  go_wp2_with fail
  go_ret
  refine ⟨?_, rfl⟩
  have e : ((x : Int) / 2 ^ (7 - i % 8)) = ((x / 2 ^ (7 - i % 8) : Nat) : Int) := by simp
  have hle := Nat.div_le_self x (2 ^ (7 - i % 8))
  show Ending.returned (.int .u64 (bits .and .u64 (IntKind.u64.wrap ((x : Int) / 2 ^ (7 - i % 8))) 1)) = _
  rw [e]
  generalize x / 2 ^ (7 - i % 8) = y at *
  rw [show IntKind.u64.wrap (y : Int) = (y : Int) by rw [IntKind.wrap_u64]; omega, and_bit y (by omega)]
set_option maxRecDepth 100000 in
theorem number_any (w : World) (g B : Nat) (A : Option Addr) (n c at_ m : Nat) (ls : List Nat) (hn : ls.length = n) (hN : n ≤ 100000) (h8 : ∀ x ∈ ls, x ≤ 255) (hat : at_ ≤ 8 * n) (hm : m ≤ 64) (hg : w.cell? ⟨g, 0, none⟩ = some (.slice A n c)) (hg1 : w.cell? ⟨g, 1, none⟩ = some (.int .i64 ((8 * n : Nat) : Int))) (ha : Row w B A n 1 (numF .u8 ls)) :
    Calls Tryz.prog 324 #[.pointer (some ⟨g, 0, none⟩), .int .i64 (at_ : Nat), .int .i64 (m : Nat)] w fun e w' => e = .returned (.int .u64 (accB (rbits ls) at_ m : Nat)) ∧ w = w' := by
  have C := Lib.hid (fun i h => bit_any w g B A n c i ls hn hN h8 h hg ha)
  have HL : Hid ((rbits ls).length = 8 * n) := by show _ = _; rw [rbits_length, hn]
  generalize rbits ls = bs at *
  generalize hz : 8 * n = z at *
  have hzb : z ≤ 800000 := by omega
  clear hn h8 ha hz
  go_enter Tryz.func324, Tryz.ntmps324
  go_wp2_with fail
  go_loopw [7, 8] (fun u j wr => ∃ p x : Nat, at_ ≤ p ∧ p ≤ at_ + m ∧ j = .int .i64 (p : Nat) ∧ u = .int .u64 x ∧ Hid (x = accB bs at_ (p - at_)) ∧ w = wr) (fun _ j _ => at_ + m - (intOf j).toNat)
  case atStart => exact ⟨at_, 0, by omega, by omega, rfl, rfl, by show 0 = _; rw [Nat.sub_self]; rfl, rfl⟩
  case round =>
    obtain ⟨p, x, hp1, hp2, rfl, rfl, hx, rfl⟩ := hrel
    by_cases hlt : p < at_ + m
    · have hxl := accB_lt bs at_ (p - at_)
      rw [← hx.out] at hxl
      have hx63 : x < 9223372036854775808 := Nat.lt_of_lt_of_le hxl (by have : 2 ^ (p - at_) ≤ 2 ^ 63 := Nat.pow_le_pow_right (by omega) (by omega); omega)
      have hstep : accB bs at_ (p + 1 - at_) = 2 * x + bit bs p := by
        rw [show p + 1 - at_ = (p - at_) + 1 by omega, accB, ← hx.out, show at_ + (p - at_) = p by omega]
      by_cases hpz : p < z
      · have hbl := bit_le bs p
        have C2 := Lib.hid (C.out p hpz)
        generalize bit bs p = y at *
        have HS := Lib.hid hstep
        clear hstep hx hxl
        go_wp2_with fail
        refine C2.out.mono ?_
        rintro e w1 ⟨rfl, rfl⟩
        go_wp2_with fail
        go_roundw
        case measure => go_light; simp [intOf]; omega
        case rel =>
          go_light
          have e : bits .or .u64 ((x : Int) * 2) (y : Int) = ((2 * x + y : Nat) : Int) := by
            rw [← or_bit1 x y hx63 hbl]
            congr 1
            omega
          exact ⟨p + 1, 2 * x + y, by omega, by omega, by go_num, by rw [e], HS.out.symm, trivial⟩
      · rw [bit_out (by rw [HL.out]; omega)] at hstep
        have HS := Lib.hid hstep
        clear hstep hx hxl
        go_wp2_with fail
        go_roundw
        case measure => go_light; simp [intOf]; omega
        case rel =>
          go_light
          exact ⟨p + 1, 2 * x, by omega, by omega, by go_num, by go_num, HS.out.symm, trivial⟩
    · obtain rfl : p = at_ + m := by omega
      go_wp2_with fail
      go_ret
      exact ⟨by rw [hx.out, Nat.add_sub_cancel_left]; rfl, rfl⟩
set_option maxRecDepth 100000 in
theorem left_any (w : World) (lo g : Nat) (bs : List Bool) (at_ : Nat) (hR : Rd w lo g bs at_) :
    Calls Tryz.prog 302 #[.pointer (some ⟨g, 0, none⟩)] w fun e w' => e = .returned (.int .i64 ((bs.length - at_ : Nat) : Int)) ∧ ∃ q, w' = w.drewN q := by
  obtain ⟨A, n, c, ls, h1, h2, h3, h4, h5, h6, h7⟩ := hR
  have hl : bs.length = 8 * n := by rw [h5, rbits_length, h3]
  rw [hl]
  have c1 := h1.cell 1
  have c2 := h1.cell 2
  simp only [List.getElem?_toArray, List.getElem?_cons_zero, List.getElem?_cons_succ] at c1 c2
  have hz : 8 * n ≤ 800000 := by omega
  generalize 8 * n = z at *
  have s1 : IntKind.i64.wrap ((z : Int) - (at_ : Int)) = ((z - at_ : Nat) : Int) := by rw [IntWalk.i64_in _ (by omega)]; omega
  clear h1 h2 h3 h4 h5 hl
  go_enter Tryz.func302, Tryz.ntmps302
  go_wp2_with fail
  go_quiet (fail)
  go_wp2_with fail
  go_ret
  exact ⟨rfl, _, rfl⟩
set_option maxRecDepth 100000 in
theorem skip_any (w : World) (lo g : Nat) (bs : List Bool) (at_ k : Nat) (hk : k ≤ 100000) (hR : Rd w lo g bs at_) :
    Calls Tryz.prog 338 #[.pointer (some ⟨g, 0, none⟩), .int .i64 (k : Nat)] w fun e w' =>
      e = .returned (.int .i64 (if at_ + k ≤ bs.length then 0 else 1)) ∧ Rd w' lo g bs (if at_ + k ≤ bs.length then at_ + k else at_) ∧ Kept (fun x => x ≠ g) w w' := by
  have C := Lib.hid (left_any w lo g bs at_ hR)
  have HR := Lib.hid hR
  have hle : at_ ≤ bs.length ∧ bs.length ≤ 800000 := by
    obtain ⟨A, n, c, ls, h1, h2, h3, h4, h5, h6, h7⟩ := hR
    rw [h5, rbits_length, h3]
    omega
  have c2 : w.cell? ⟨g, 2, none⟩ = some (.int .i64 at_) := by
    obtain ⟨A, n, c, ls, h1, _⟩ := hR
    exact h1.cell 2
  have f2 : w.frozen? ⟨g, 2, none⟩ = false := by
    obtain ⟨A, n, c, ls, h1, _⟩ := hR
    exact h1.frozen 2
  obtain ⟨z, hz⟩ : ∃ z, z = bs.length := ⟨_, rfl⟩
  rw [← hz] at C hle ⊢
  have HZ := Lib.hid hz
  obtain ⟨hle1, hle2⟩ := hle
  clear hR hz
  by_cases hlt : at_ + k ≤ z
  · rw [if_pos hlt, if_pos hlt]
    have x1 : (k : Int) ≤ ((z - at_ : Nat) : Int) := by omega
    go_enter Tryz.func338, Tryz.ntmps338
    go_wp2_with fail
    refine C.out.mono ?_
    rintro e w1 ⟨rfl, q, rfl⟩
    go_wp2_with fail
    go_ret
    exact ⟨rfl, (HR.out.drewN q).moved (by rw [← HZ.out]; exact hlt), Kept.set (p := ⟨g, 2, none⟩) ((Kept.refl _ w).drewN q) (fun h => h rfl) _⟩
  · rw [if_neg hlt, if_neg hlt]
    have x1 : ¬ (k : Int) ≤ ((z - at_ : Nat) : Int) := by omega
    go_enter Tryz.func338, Tryz.ntmps338
    go_wp2_with fail
    refine C.out.mono ?_
    rintro e w1 ⟨rfl, q, rfl⟩
    go_wp2_with fail
    go_ret
    exact ⟨rfl, HR.out.drewN q, (Kept.refl _ w).drewN q⟩
set_option maxRecDepth 100000 in
theorem peek_any (w : World) (lo g : Nat) (bs : List Bool) (at_ m : Nat) (hm : m ≤ 64) (hR : Rd w lo g bs at_) :
    Calls Tryz.prog 336 #[.pointer (some ⟨g, 0, none⟩), .int .i64 (m : Nat)] w fun e w' =>
      e = .returned (.tuple #[.int .u64 (accB bs at_ m : Nat), .int .i64 ((min m (bs.length - at_) : Nat) : Int)]) ∧ ∃ q, w' = w.drewN q := by
  have C1 := Lib.hid (fun q => left_any (w.drewN q) lo g bs at_ (hR.drewN q))
  obtain ⟨A, n, c, ls, h1, h2, h3, h4, h5, h6, h7⟩ := hR
  have c0 := h1.cell 0
  have c1 := h1.cell 1
  have c2 := h1.cell 2
  simp only [List.getElem?_toArray, List.getElem?_cons_zero, List.getElem?_cons_succ] at c0 c1 c2
  have C2 := Lib.hid (fun q => (number_any (w.drewN q) g g A n c at_ m ls h3 h7 h4 h6 hm c0 c1 (h2.row.drewN q)).mono (fun e w' h => And.intro h.1 h.2.symm))
  rw [← h5] at C2
  generalize bs.length - at_ = d at *
  generalize accB bs at_ m = y at *
  clear h1 h2 h3 h4 h5 h6 c0 c1
  go_enter Tryz.func336, Tryz.ntmps336
  go_wp2_with fail
  go_quiet (first | (go_at_call 324; exact Calls.quiet_of_same (C2.out _)) | (go_at_call 302; exact Calls.quiet_of (C1.out _)))
  go_wp2_with fail
  all_goals
    go_ret2
    refine ⟨?_, _, rfl⟩
    first
    | (rw [show min m d = d by omega]; rfl)
    | (rw [show min m d = m by omega]; rfl)
theorem Rd.cellAt {w : World} {lo g at_ : Nat} {bs : List Bool} (h : Rd w lo g bs at_) : w.cell? ⟨g, 2, none⟩ = some (.int .i64 at_) := by
  obtain ⟨A, n, c, ls, h1, _⟩ := h
  exact h1.cell 2
theorem number_rd (w : World) (lo g : Nat) (bs : List Bool) (at_ m : Nat) (hm : m ≤ 64) (hR : Rd w lo g bs at_) (q : Nat) :
    Calls Tryz.prog 324 #[.pointer (some ⟨g, 0, none⟩), .int .i64 (at_ : Nat), .int .i64 (m : Nat)] (w.drewN q) fun e w' => e = .returned (.int .u64 (accB bs at_ m : Nat)) ∧ w' = w.drewN q := by
  obtain ⟨A, n, c, ls, h1, h2, h3, h4, h5, h6, h7⟩ := hR
  have c0 := h1.cell 0
  have c1 := h1.cell 1
  have h := (number_any (w.drewN q) g g A n c at_ m ls h3 h7 h4 h6 hm c0 c1 (h2.row.drewN q)).mono (fun e w' h => And.intro h.1 h.2.symm)
  rw [← h5] at h
  exact h
def padE (bs : List Bool) (at_ : Nat) : Int := if bs.length - at_ ≥ 8 ∨ accB bs at_ (bs.length - at_) ≠ 0 then 2 else 0
set_option maxRecDepth 100000 in
theorem pad_any (w : World) (lo g : Nat) (bs : List Bool) (at_ : Nat) (hR : Rd w lo g bs at_) :
    Calls Tryz.prog 320 #[.pointer (some ⟨g, 0, none⟩)] w fun e w' => e = .returned (.int .i64 (padE bs at_)) ∧ ∃ q, w' = w.drewN q := by
  have C1 := Lib.hid (left_any w lo g bs at_ hR)
  have HR := Lib.hid hR
  clear hR
  by_cases h8 : bs.length - at_ < 8
  · by_cases h0 : accB bs at_ (bs.length - at_) = 0
    · have hE : padE bs at_ = 0 := by unfold padE; rw [if_neg (by omega)]
      rw [hE]
      clear hE
      have H0 := Lib.hid h0
      clear h0
      go_enter Tryz.func320, Tryz.ntmps320
      go_wp2_with fail
      refine C1.out.mono ?_
      rintro e w1 ⟨rfl, q1, hq1⟩
      have hR1 : Rd w1 lo g bs at_ := by rw [hq1]; exact HR.out.drewN q1
      have c2 := hR1.cellAt
      have HQ := Lib.hid hq1
      clear hq1
      have C2 := Lib.hid (number_rd w1 lo g bs at_ (bs.length - at_) (by omega) hR1)
      rw [H0.out] at C2
      clear hR1
      generalize bs.length - at_ = d at *
      have h8b : decide ((8 : Int) ≤ (d : Int)) = false := by simp; omega
      go_wp2_with fail
      go_quiet (first | (go_at_call 324; exact Calls.quiet_of_same (C2.out _)))
      go_wp2_with fail
      go_ret
      refine ⟨rfl, ?_⟩
      rw [HQ.out]
      exact ⟨_, World.drewN_drewN _ _ _⟩
    · have hE : padE bs at_ = 2 := by unfold padE; rw [if_pos (.inr h0)]
      rw [hE]
      clear hE
      go_enter Tryz.func320, Tryz.ntmps320
      go_wp2_with fail
      refine C1.out.mono ?_
      rintro e w1 ⟨rfl, q1, hq1⟩
      have hR1 : Rd w1 lo g bs at_ := by rw [hq1]; exact HR.out.drewN q1
      have c2 := hR1.cellAt
      have HQ := Lib.hid hq1
      clear hq1
      have C2 := Lib.hid (number_rd w1 lo g bs at_ (bs.length - at_) (by omega) hR1)
      clear hR1
      generalize bs.length - at_ = d at *
      generalize accB bs at_ d = y at *
      have hyb : ((y : Int) != 0) = true := bne_iff_ne.mpr (by omega)
      clear h0
      have h8b : decide ((8 : Int) ≤ (d : Int)) = false := by simp; omega
      go_wp2_with fail
      go_quiet (first | (go_at_call 324; exact Calls.quiet_of_same (C2.out _)))
      go_wp2_with fail
      go_ret
      refine ⟨rfl, ?_⟩
      rw [HQ.out]
      exact ⟨_, World.drewN_drewN _ _ _⟩
  · have hE : padE bs at_ = 2 := by unfold padE; rw [if_pos (.inl (by omega))]
    rw [hE]
    clear hE
    go_enter Tryz.func320, Tryz.ntmps320
    go_wp2_with fail
    refine C1.out.mono ?_
    rintro e w1 ⟨rfl, q1, hq1⟩
    have hR1 : Rd w1 lo g bs at_ := by rw [hq1]; exact HR.out.drewN q1
    have c2 := hR1.cellAt
    have HQ := Lib.hid hq1
    clear hq1
    clear hR1
    generalize bs.length - at_ = d at *
    have h8b : decide ((8 : Int) ≤ (d : Int)) = true := by simp; omega
    go_wp2_with fail
    go_quiet (fail)
    go_wp2_with fail
    go_ret
    refine ⟨rfl, ?_⟩
    rw [HQ.out]
    exact ⟨_, World.drewN_drewN _ _ _⟩
set_option maxRecDepth 100000 in
theorem newreader_any (w : World) (A : Option Addr) (n c : Nat) (ls : List Nat) (hn : ls.length = n) (hle : n ≤ 100000) (h8 : ∀ x ∈ ls, x ≤ 255) (hnil : A = none → n = 0 ∧ c = 0) (ha : Row w w.heap.size A n 1 (numF .u8 ls)) :
    Calls Tryz.prog 299 #[.slice A n c] w fun e w' => ∃ g, e = .returned (.pointer (some ⟨g, 0, none⟩)) ∧ Rd w' w.heap.size g (rbits ls) 0 ∧ w.heap.size ≤ g ∧ Below w.heap.size w w' := by
  have C := Lib.hid (clone_u8 w A n c ls hn hle hnil ha)
  have HN := Lib.hid hn
  have H8 := Lib.hid h8
  clear hn h8 hnil ha
  go_enter Tryz.func299, Tryz.ntmps299
  go_wp2_with fail
  refine C.out.mono ?_
  rintro e w1 ⟨v, rfl, hown, hb1⟩
  obtain ⟨A1, c1, rfl⟩ := own_shape hown
  have z1 := hb1.size
  have hrow := RowIn.of_own (f := numF .u8 ls) (s := 1) hown rfl (fun i j hi hj => by have e0 : j = 0 := (by omega); subst e0; exact numL_get (by rw [HN.out]; exact hi))
  have HROW := Lib.hid hrow
  clear hown hrow C
  go_wp2_with fail
  go_ret
  refine ⟨_, rfl, ⟨A1, n, c1, ls, ?_, ?_, HN.out, H8.out, rfl, by omega, hle⟩, z1, bel_alloc z1 hb1⟩
  · have h := Blk.made w1 381 #[.slice A1 n c1, .int .i64 ((8 * n : Nat) : Int), .int .i64 ((0 : Nat) : Int)]
    simpa using h
  · exact HROW.out.keep (fun p _ h => World.cell?_alloc_lt (w := w1) (a := p) (o := _) h)
end Go.Proofs.YtmgjgkdbagbleaaGreatDoor.Huff
namespace Go.Proofs.YtmgjgkdbagbleaaGreatDoor.Huff
open Go.RowKit Go.Proofs.YtmgjgkdbagbleaaGreatDoor.Mem Go.Proofs.YtmgjgkdbagbleaaGreatDoor.Canon Go.Proofs.YtmgjgkdbagbleaaGreatDoor.Own
theorem firstN_pos {ls : List Nat} {l : Nat} (h : 0 < cn ls l) : firstN ls ls.length l = fst ls l := by
  unfold firstN
  rw [List.take_length, if_neg (by omega)]
theorem firstN_zero {ls : List Nat} {l : Nat} (h : cn ls l = 0) : firstN ls ls.length l = 0 := by
  unfold firstN
  rw [List.take_length, if_pos h]
theorem firstN_le {ls : List Nat} (hok : okB ls = true) (l : Nat) (hl : l ≤ 15) : firstN ls ls.length l + cn ls l ≤ 65536 := by
  obtain ⟨h1, h2, h3⟩ := ok_parts hok
  have h4 := cn_le ls l
  by_cases h : 0 < cn ls l
  · rw [firstN_pos h]
    have h5 := fst_wsum ls l hl
    have h6 := wsum_mono ls (show l + 1 ≤ 16 by omega)
    have h7 : (fst ls l + cn ls l) * 1 ≤ (fst ls l + cn ls l) * 2 ^ (15 - l) := Nat.mul_le_mul_left _ (Nat.two_pow_pos _)
    omega
  · rw [firstN_zero (by omega)]
    omega
set_option maxRecDepth 100000 in
theorem find_hits (w : World) (lo B g : Nat) (ls : List Nat) (y l k s : Nat) (hok : okB ls = true) (hC : Coder w lo B g ls) (h0 : 0 < l) (hl : l ≤ 15) (hk : k < cn ls l) (hy : y = fst ls l + k) (hs : (symsOf ls l)[k]? = some s) :
    Calls Tryz.prog 337 #[.pointer (some ⟨g, 0, none⟩), .int .u64 (y : Nat), .int .i64 (l : Nat)] w fun e w' => e = .returned (.tuple #[.int .i64 s, .bool true]) ∧ w = w' := by
  have hF := firstN_le hok l hl
  have c1 := hC.first l (by omega)
  have c2 := hC.many l (by omega)
  obtain ⟨AS, cS, c3, hrow⟩ := hC.syms l (by omega)
  obtain ⟨b, off, rfl, _, hcell⟩ := hrow (by omega)
  have c4 := hcell k 0 hk (by omega)
  have hsy : symsN ls l = symsOf ls l := by unfold symsN; rw [if_neg (by omega)]
  rw [hsy] at c4
  have c5 : w.cell? ⟨b, off + k, none⟩ = some (.int .i64 s) := by
    simpa [numF, List.getD_eq_getElem?_getD, hs] using c4
  rw [firstN_pos (by omega)] at c1 hF
  generalize fst ls l = F at *
  generalize cn ls l = M at *
  have hsb : s ≤ 300 := by
    have h1 := (symsOf_get ls k s hs).1
    have h2 := (List.getElem?_eq_some_iff.1 h1).1
    have h3 := (ok_parts hok).1
    omega
  have x0 : (0 : Int) ≤ (l : Int) := by omega
  have x1 : (l : Int) < 16 := by omega
  have x2 : (0 : Int) ≤ (k : Int) := by omega
  have x3 : (k : Int) < (M : Int) := by omega
  have x4 : ¬ (k : Int) < 0 := by omega
  have s1 : IntKind.i64.wrap ((y : Int) - (F : Int)) = (k : Int) := by rw [IntWalk.i64_in _ (by omega)]; omega
  have s2 : IntKind.i64.wrap (y : Int) = (y : Int) := IntWalk.i64_in _ (by omega)
  clear hF hrow hcell c4 hsy hs hok hC hy
  go_enter Tryz.func337, Tryz.ntmps337
  go_wp2_with fail
  go_ret2
  exact ⟨rfl, rfl⟩
set_option maxRecDepth 100000 in
theorem find_none (w : World) (lo B g : Nat) (ls : List Nat) (y l : Nat) (hok : okB ls = true) (hC : Coder w lo B g ls) (h0 : 0 < l) (hl : l ≤ 15) (hyb : y ≤ 65535) (hy : y < fst ls l ∨ fst ls l + cn ls l ≤ y) :
    Calls Tryz.prog 337 #[.pointer (some ⟨g, 0, none⟩), .int .u64 (y : Nat), .int .i64 (l : Nat)] w fun e w' => e = .returned (.tuple #[.int .i64 0, .bool false]) ∧ w = w' := by
  have hF := firstN_le hok l hl
  have c1 := hC.first l (by omega)
  have c2 := hC.many l (by omega)
  have hcase : (y : Int) - (firstN ls ls.length l : Nat) < 0 ∨ ((cn ls l : Nat) : Int) ≤ (y : Int) - (firstN ls ls.length l : Nat) := by
    by_cases h : 0 < cn ls l
    · rw [firstN_pos h]; omega
    · rw [firstN_zero (by omega)]; omega
  generalize firstN ls ls.length l = F at *
  generalize cn ls l = M at *
  have x0 : (0 : Int) ≤ (l : Int) := by omega
  have x1 : (l : Int) < 16 := by omega
  have s2 : IntKind.i64.wrap (y : Int) = (y : Int) := IntWalk.i64_in _ (by omega)
  obtain ⟨z, hz⟩ : ∃ z : Int, z = (y : Int) - (F : Int) := ⟨_, rfl⟩
  have s1 : IntKind.i64.wrap ((y : Int) - (F : Int)) = z := by rw [IntWalk.i64_in _ (by omega), hz]
  rw [← hz] at hcase
  clear hok hC hy hF hz
  by_cases hneg : z < 0
  · clear hcase
    go_enter Tryz.func337, Tryz.ntmps337
    go_wp2_with fail
    go_ret2
    exact ⟨rfl, rfl⟩
  · have hge : (M : Int) ≤ z := by omega
    clear hcase
    go_enter Tryz.func337, Tryz.ntmps337
    go_wp2_with fail
    go_ret2
    exact ⟨rfl, rfl⟩
def meets (ls : List Nat) (y l k : Nat) : Prop := 0 < cn ls k ∧ y * 2 ^ (k - l) < fst ls k + cn ls k ∧ fst ls k < y * 2 ^ (k - l) + 2 ^ (k - l)
instance (ls : List Nat) (y l k : Nat) : Decidable (meets ls y l k) := by unfold meets; infer_instance
def meetsAny (ls : List Nat) (y l : Nat) : Bool := (List.range 16).any fun k => decide (l < k ∧ meets ls y l k)
theorem meetsAny_of {ls : List Nat} {y l k : Nat} (h1 : l < k) (h2 : k ≤ 15) (h3 : meets ls y l k) : meetsAny ls y l = true := by
  unfold meetsAny
  rw [List.any_eq_true]
  exact ⟨k, List.mem_range.2 (by omega), by simpa using ⟨h1, h3⟩⟩
theorem meetsAny_none {ls : List Nat} {y l : Nat} (h : ∀ k, l < k → k < 16 → ¬ meets ls y l k) : meetsAny ls y l = false := by
  unfold meetsAny
  rw [List.any_eq_false]
  intro k hk
  have := List.mem_range.1 hk
  simp only [decide_eq_true_eq, not_and]
  exact fun h1 => h k h1 this
theorem meetsAny_begin {ls : List Nat} (hsm : ∀ x ∈ ls, x ≤ 15) (X there : Nat) : meetsAny ls (X / 2 ^ (15 - there)) there = (List.range ls.length).any (begin_ ls X there) := by
  cases hb : (List.range ls.length).any (begin_ ls X there)
  · refine meetsAny_none fun k h1 h2 h3 => ?_
    obtain ⟨s, hs, hc⟩ := begins_some h1 h3.1 h3.2.1 h3.2.2
    rw [List.any_eq_false] at hb
    have := hb s (List.mem_range.2 (List.getElem?_eq_some_iff.1 hs).1)
    exact this (begin_iff.2 ⟨k, hs, h1, hc.symm⟩)
  · rw [List.any_eq_true] at hb
    obtain ⟨s, _, hs⟩ := hb
    obtain ⟨k, hk, h1, hc⟩ := begin_iff.1 hs
    exact meetsAny_of h1 (hsm k (List.mem_of_getElem? hk)) (begins_none h1 hk hc.symm)
theorem wrap64_small (n : Nat) (h : n ≤ 65536) : wrap64 (n : Int) = (n : Int) := IntWalk.wrap64_in _ (by omega)
theorem pow_cast (d : Nat) : ((2 : Int) ^ d) = ((2 ^ d : Nat) : Int) := by simp
theorem shl_eq (y d : Nat) (h : y * 2 ^ d < 2 ^ 15) : wrap64 ((y : Int) * 2 ^ d) = ((y * 2 ^ d : Nat) : Int) := by
  rw [pow_cast, ← Int.natCast_mul]
  exact wrap64_small _ (by omega)
theorem shl_add (P d : Nat) (hP : P < 2 ^ 15) (h : 2 ^ d ≤ 2 ^ 15) : wrap64 ((P : Int) + wrap64 (2 ^ d)) = (P : Int) + ((2 ^ d : Nat) : Int) := by
  rw [pow_cast, wrap64_small _ (by omega), ← Int.natCast_add]
  exact wrap64_small _ (by omega)
set_option maxHeartbeats 1000000 in
set_option maxRecDepth 100000 in
theorem begins_any (w : World) (lo B g : Nat) (ls : List Nat) (y l : Nat) (hok : okB ls = true) (hC : Coder w lo B g ls) (hl : l < 15) (hy : y < 2 ^ l) :
    Calls Tryz.prog 339 #[.pointer (some ⟨g, 0, none⟩), .int .u64 (y : Nat), .int .i64 (l : Nat)] w fun e w' => e = .returned (.bool (meetsAny ls y l)) ∧ ∃ q, w' = w.drewN q := by
  have HC := Lib.hid hC
  have HOK := Lib.hid hok
  have HY := Lib.hid hy
  have hyb : y ≤ 32768 := by have : 2 ^ l ≤ 2 ^ 15 := Nat.pow_le_pow_right (by omega) (by omega); omega
  clear hok hC hy
  go_enter Tryz.func339, Tryz.ntmps339
  go_wp2_with fail
  go_loopw [7] (fun i wr => ∃ k : Nat, l < k ∧ k ≤ 16 ∧ i = .int .i64 k ∧ Hid (∀ j, l < j → j < k → ¬ meets ls y l j) ∧ Hid (∃ q, wr = w.drewN q)) (fun i _ => 16 - (intOf i).toNat)
  case atStart => exact ⟨l + 1, by omega, by omega, by go_num, (fun j h1 h2 => by omega), ⟨0, rfl⟩⟩
  case round =>
    obtain ⟨k, hk1, hk2, rfl, hno, hdr⟩ := hrel
    by_cases hlt : k < 16
    · have hC2 : Coder wr lo B g ls := by obtain ⟨q, hq⟩ := hdr.out; rw [hq]; exact HC.out.keep (fun _ _ _ => rfl)
      have c1 := hC2.first k hlt
      have c2 := hC2.many k hlt
      have hF := firstN_le HOK.out k (by omega)
      have hpow : 2 ^ (k - l) ≤ 2 ^ 15 := Nat.pow_le_pow_right (by omega) (by omega)
      have hsh : y * 2 ^ (k - l) < 2 ^ 15 := by
        have h1 : y * 2 ^ (k - l) < 2 ^ l * 2 ^ (k - l) := Nat.mul_lt_mul_of_pos_right HY.out (Nat.two_pow_pos _)
        rw [← Nat.pow_add, show l + (k - l) = k by omega] at h1
        have h2 : 2 ^ k ≤ 2 ^ 15 := Nat.pow_le_pow_right (by omega) (by omega)
        omega
      have hmt : meets ls y l k ↔ 0 < cn ls k ∧ y * 2 ^ (k - l) < firstN ls ls.length k + cn ls k ∧ firstN ls ls.length k < y * 2 ^ (k - l) + 2 ^ (k - l) := by
        unfold meets
        by_cases h : 0 < cn ls k
        · rw [firstN_pos h]
        · constructor
          · intro h1; exact absurd h1.1 h
          · intro h1; exact absurd h1.1 h
      have x0 : (0 : Int) ≤ (k : Int) := by omega
      have x1 : (k : Int) < 16 := by omega
      have x2 : (0 : Int) ≤ (k : Int) - (l : Int) := by omega
      go_upto_region 5 with fail
      obtain ⟨D, hD⟩ : ∃ D, D = 2 ^ (k - l) := ⟨_, rfl⟩
      obtain ⟨P, hP⟩ : ∃ P, P = y * D := ⟨_, rfl⟩
      rw [← hD] at hpow hsh hmt
      rw [← hP] at hsh hmt
      generalize firstN ls ls.length k = F at *
      generalize cn ls k = M at *
      have e := shl_eq y (k - l) (by rw [← hD, ← hP]; exact hsh)
      rw [← hD, ← hP] at e
      have e2 := shl_add P (k - l) hsh (by rw [← hD]; exact hpow)
      rw [← hD] at e2
      rw [e]
      clear e
      have s1 : IntKind.i64.wrap ((F : Int) + (M : Int)) = (F : Int) + (M : Int) := IntWalk.i64_in _ (by omega)
      have HMT := Lib.hid hmt
      clear hP hC2 hmt
      by_cases hM : 0 < M
      · by_cases h1 : P < F + M
        · have g1 : decide ((P : Int) < (F : Int) + (M : Int)) = true := by simp; omega
          by_cases h2 : F < P + D
          · have g2 : decide ((F : Int) < wrap64 ((P : Int) + wrap64 (2 ^ (k - l)))) = true := by rw [e2]; simp; omega
            have HA := Lib.hid (meetsAny_of hk1 (by omega) (HMT.out.2 ⟨hM, h1, h2⟩))
            clear hD e2 h1 h2
            go_quiet (fail)
            go_wp2_with fail
            go_ret
            obtain ⟨q, rfl⟩ := hdr.out
            exact ⟨by rw [HA.out]; rfl, _, World.drewN_drewN _ _ _⟩
          · have g2 : decide ((F : Int) < wrap64 ((P : Int) + wrap64 (2 ^ (k - l)))) = false := by rw [e2]; simp; omega
            have hnm : ¬ meets ls y l k := fun h => h2 (HMT.out.1 h).2.2
            have hno2 : ∀ j, l < j → j < k + 1 → ¬ meets ls y l j := by
              intro j hj1 hj2
              by_cases hjk : j = k
              · rw [hjk]; exact hnm
              · exact hno.out j hj1 (by omega)
            have HNO := Lib.hid hno2
            clear hD e2 h1 h2 hnm hno2 hno HMT
            go_quiet (fail)
            go_wp2_with fail
            go_roundw
            case measure => go_light; simp [intOf]; omega
            case rel =>
              go_light
              refine ⟨k + 1, by omega, by omega, by go_num, HNO.out, ?_⟩
              obtain ⟨q, rfl⟩ := hdr.out
              exact ⟨_, World.drewN_drewN _ _ _⟩
        · have g1 : decide ((P : Int) < (F : Int) + (M : Int)) = false := by simp; omega
          have hnm : ¬ meets ls y l k := fun h => h1 (HMT.out.1 h).2.1
          have h2 := 0
          have hno2 : ∀ j, l < j → j < k + 1 → ¬ meets ls y l j := by
            intro j hj1 hj2
            by_cases hjk : j = k
            · rw [hjk]; exact hnm
            · exact hno.out j hj1 (by omega)
          have HNO := Lib.hid hno2
          clear hD e2 h1 h2 hnm hno2 hno HMT
          go_quiet (fail)
          go_wp2_with fail
          go_roundw
          case measure => go_light; simp [intOf]; omega
          case rel =>
            go_light
            refine ⟨k + 1, by omega, by omega, by go_num, HNO.out, ?_⟩
            obtain ⟨q, rfl⟩ := hdr.out
            exact ⟨_, World.drewN_drewN _ _ _⟩
      · have hM0 : M = 0 := by omega
        subst hM0
        have hnm : ¬ meets ls y l k := fun h => hM (HMT.out.1 h).1
        have h1 := 0
        have h2 := 0
        have hno2 : ∀ j, l < j → j < k + 1 → ¬ meets ls y l j := by
          intro j hj1 hj2
          by_cases hjk : j = k
          · rw [hjk]; exact hnm
          · exact hno.out j hj1 (by omega)
        have HNO := Lib.hid hno2
        clear hD e2 h1 h2 hnm hno2 hno HMT
        go_quiet (fail)
        go_wp2_with fail
        go_roundw
        case measure => go_light; simp [intOf]; omega
        case rel =>
          go_light
          refine ⟨k + 1, by omega, by omega, by go_num, HNO.out, ?_⟩
          obtain ⟨q, rfl⟩ := hdr.out
          exact ⟨_, World.drewN_drewN _ _ _⟩
    · obtain rfl : k = 16 := by omega
      have HA := Lib.hid (meetsAny_none hno.out)
      go_wp2_with fail
      go_ret
      exact ⟨by rw [HA.out]; rfl, hdr.out⟩
end Go.Proofs.YtmgjgkdbagbleaaGreatDoor.Huff
namespace Go.Proofs.YtmgjgkdbagbleaaGreatDoor.Huff
open Go.RowKit Go.Proofs.YtmgjgkdbagbleaaGreatDoor.Mem Go.Proofs.YtmgjgkdbagbleaaGreatDoor.Canon Go.Proofs.YtmgjgkdbagbleaaGreatDoor.Own
theorem div_cast (X d : Nat) : ((X / 2 ^ d : Nat) : Int) = (X : Int) / 2 ^ d := by simp
theorem head_lt (bs : List Bool) (at_ : Nat) : head bs at_ < 32768 := accB_lt bs at_ 15
theorem head_div_lt (X l : Nat) (hX : X < 32768) (hl : l ≤ 15) : X / 2 ^ (15 - l) < 2 ^ l := by
  apply Nat.div_lt_of_lt_mul
  rw [← Nat.pow_add, show 15 - l + l = 15 by omega]
  omega
def GetPost (ls : List Nat) (bs : List Bool) (at_ lo g : Nat) (w : World) (e : Ending) (w' : World) : Prop :=
  e = .returned (.tuple #[.int .i64 (getR ls (head bs at_) (there bs at_)).1, .int .i64 (getR ls (head bs at_) (there bs at_)).2.1]) ∧
    Rd w' lo g bs (at_ + (getR ls (head bs at_) (there bs at_)).2.2) ∧ Kept (fun x => x ≠ g) w w'
set_option maxHeartbeats 1000000 in
set_option maxRecDepth 100000 in
theorem get_any (w : World) (clo cB gc lo g : Nat) (ls : List Nat) (bs : List Bool) (at_ : Nat) (hok : okB ls = true) (hC : Coder w clo cB gc ls) (hR : Rd w lo g bs at_) :
    Calls Tryz.prog 332 #[.pointer (some ⟨gc, 0, none⟩), .pointer (some ⟨g, 0, none⟩)] w (GetPost ls bs at_ lo g w) := by
  have C1 := Lib.hid (peek_any w lo g bs at_ 15 (by omega) hR)
  have hX := head_lt bs at_
  have hth : there bs at_ ≤ 15 := by unfold there; omega
  have hth2 : there bs at_ ≤ bs.length - at_ := by unfold there; omega
  have hlen : at_ ≤ bs.length := by
    obtain ⟨A, n, c, l, h1, h2, h3, h4, h5, h6, h7⟩ := hR
    rw [h5, rbits_length, h3]; exact h6
  change Hid (Calls _ _ _ _ fun e w' => e = .returned (.tuple #[.int .u64 (head bs at_ : Nat), .int .i64 (there bs at_ : Nat)]) ∧ ∃ q, w' = w.drewN q) at C1
  unfold GetPost
  generalize head bs at_ = X at *
  generalize there bs at_ = th at *
  have HC := Lib.hid hC
  have HR := Lib.hid hR
  have HOK := Lib.hid hok
  clear hC hR hok
  go_enter Tryz.func332, Tryz.ntmps332
  go_wp2_with fail
  refine C1.out.mono ?_
  rintro e w1 ⟨rfl, q1, hq1⟩
  have HC1 : Hid (Coder w1 clo cB gc ls) := by show Coder w1 clo cB gc ls; rw [hq1]; exact HC.out.keep (fun _ _ _ => rfl)
  have HR1 : Hid (Rd w1 lo g bs at_) := by show Rd w1 lo g bs at_; rw [hq1]; exact HR.out
  have HK1 : Hid (Kept (fun x => x ≠ g) w w1) := by show Kept _ w w1; rw [hq1]; exact (Kept.refl _ w).drewN q1
  clear hq1 C1
  go_wp2_with fail
  go_loopw [8] (fun i wr => ∃ l : Nat, 1 ≤ l ∧ l ≤ th + 1 ∧ i = .int .i64 l ∧ Hid (∀ s, hit ls X (l - 1) s = false) ∧ w1 = wr) (fun i _ => 17 - (intOf i).toNat)
  case atStart => exact ⟨1, by omega, by omega, rfl, no_hit_zero ls X, rfl⟩
  case round =>
    obtain ⟨l, hl1, hl2, rfl, hno, rfl⟩ := hrel
    by_cases hlt : l ≤ th
    · by_cases hhit : ∃ k, k < cn ls l ∧ X / 2 ^ (15 - l) = fst ls l + k
      · obtain ⟨k, hk, hy⟩ := hhit
        obtain ⟨s, hs1, hs2, hs3⟩ := find_hit (by omega) hk hy
        have C2 := find_hits w1 clo cB gc ls _ l k s HOK.out HC1.out (by omega) (by omega) hk hy hs1
        rw [div_cast] at C2
        have C2 := Lib.hid C2
        have C3 := skip_any w1 lo g bs at_ l (by omega) HR1.out
        rw [if_pos (by omega), if_pos (by omega)] at C3
        have C3 := Lib.hid C3
        have HG := Lib.hid (getR_hit HOK.out hs2 (hit_mono hlt hs3))
        clear hk hy hs1 hs2 hs3 hno
        go_wp2_with fail
        refine C2.out.mono ?_
        rintro e w2 ⟨rfl, rfl⟩
        go_wp2_with fail
        refine C3.out.mono ?_
        rintro e w3 ⟨rfl, hR3, hk3⟩
        go_wp2_with fail
        go_ret2
        rw [HG.out]
        exact ⟨rfl, hR3, HK1.out.trans hk3⟩
      · have hy : X / 2 ^ (15 - l) < fst ls l ∨ fst ls l + cn ls l ≤ X / 2 ^ (15 - l) := by
          by_cases h : X / 2 ^ (15 - l) < fst ls l
          · exact .inl h
          · refine .inr (Nat.le_of_not_lt fun h2 => hhit ⟨X / 2 ^ (15 - l) - fst ls l, by omega, by omega⟩)
        have hyl := Nat.div_le_self X (2 ^ (15 - l))
        have C2 := find_none w1 clo cB gc ls (X / 2 ^ (15 - l)) l HOK.out HC1.out (by omega) (by omega) (by omega) hy
        rw [div_cast] at C2
        have C2 := Lib.hid C2
        have hno2 : ∀ s, hit ls X l s = false := by
          obtain ⟨j, rfl⟩ : ∃ j, l = j + 1 := ⟨l - 1, by omega⟩
          exact no_hit_succ hno.out hy
        have HNO := Lib.hid hno2
        clear hhit hy hyl hno hno2
        go_wp2_with fail
        refine C2.out.mono ?_
        rintro e w2 ⟨rfl, rfl⟩
        go_wp2_with fail
        go_roundw
        case measure => go_light; simp [intOf]; omega
        case rel =>
          go_light
          exact ⟨l + 1, by omega, by omega, by go_num, HNO.out, trivial⟩
    · have hle : l - 1 = th := by omega
      have hno2 := hno.out
      rw [hle] at hno2
      have hG := getR_none hno2
      obtain ⟨_, hsm, _⟩ := ok_parts HOK.out
      rw [← meetsAny_begin hsm] at hG
      have HG := Lib.hid hG
      by_cases h15 : th < 15
      · have C2 := begins_any w1 clo cB gc ls (X / 2 ^ (15 - th)) th HOK.out HC1.out h15 (head_div_lt X th hX hth)
        rw [div_cast] at C2
        have C2 := Lib.hid C2
        have x1 : (th : Int) < 15 := by omega
        cases hma : meetsAny ls (X / 2 ^ (15 - th)) th
        · rw [hma] at C2 HG
          clear hle hno hno2 hG hsm hma
          go_wp2_with fail
          refine C2.out.mono ?_
          rintro e w2 ⟨rfl, q2, rfl⟩
          go_wp2_with fail
          go_ret2
          rw [HG.out]
          exact ⟨rfl, HR1.out.drewN q2, HK1.out.drewN q2⟩
        · rw [hma] at C2 HG
          clear hle hno hno2 hG hsm hma
          go_wp2_with fail
          refine C2.out.mono ?_
          rintro e w2 ⟨rfl, q2, rfl⟩
          go_wp2_with fail
          go_ret2
          rw [HG.out]
          exact ⟨rfl, HR1.out.drewN q2, HK1.out.drewN q2⟩
      · have hma : meetsAny ls (X / 2 ^ (15 - th)) th = false := meetsAny_none fun k h1 h2 => by omega
        rw [hma] at HG
        clear hle hno hno2 hG hsm hma
        go_wp2_with fail
        go_ret2
        rw [HG.out]
        exact ⟨rfl, HR1.out, HK1.out⟩
end Go.Proofs.YtmgjgkdbagbleaaGreatDoor.Huff
namespace Go.Proofs.YtmgjgkdbagbleaaGreatDoor.Huff
open Go.RowKit Go.Proofs.YtmgjgkdbagbleaaGreatDoor.Mem Go.Proofs.YtmgjgkdbagbleaaGreatDoor.Canon Go.Proofs.YtmgjgkdbagbleaaGreatDoor.Own
end Go.Proofs.YtmgjgkdbagbleaaGreatDoor.Huff
namespace Go.Proofs.YtmgjgkdbagbleaaGreatDoor.Huff
open Go.RowKit Go.Proofs.YtmgjgkdbagbleaaGreatDoor.Mem Go.Proofs.YtmgjgkdbagbleaaGreatDoor.Canon Go.Proofs.YtmgjgkdbagbleaaGreatDoor.Own
def gotV (bs : List Bool) (at_ m : Nat) : Nat := if at_ + m ≤ bs.length then accB bs at_ m else 0
def gotE (bs : List Bool) (at_ m : Nat) : Int := if at_ + m ≤ bs.length then 0 else 1
def gotA (bs : List Bool) (at_ m : Nat) : Nat := if at_ + m ≤ bs.length then at_ + m else at_
set_option maxRecDepth 100000 in
theorem bget_any (w : World) (lo g : Nat) (bs : List Bool) (at_ m : Nat) (hm : m ≤ 64) (hR : Rd w lo g bs at_) :
    Calls Tryz.prog 303 #[.pointer (some ⟨g, 0, none⟩), .int .i64 (m : Nat)] w fun e w' =>
      e = .returned (.tuple #[.int .u64 (gotV bs at_ m : Nat), .int .i64 (gotE bs at_ m)]) ∧ Rd w' lo g bs (gotA bs at_ m) ∧ Kept (fun x => x ≠ g) w w' := by
  have C := Lib.hid (left_any w lo g bs at_ hR)
  have HR := Lib.hid hR
  have hat : at_ ≤ bs.length ∧ bs.length ≤ 800000 := by
    obtain ⟨A, n, c, ls, h1, h2, h3, h4, h5, h6, h7⟩ := hR
    rw [h5, rbits_length, h3]; omega
  obtain ⟨hat1, hat2⟩ := hat
  have c2 := hR.cellAt
  have f2 : w.frozen? ⟨g, 2, none⟩ = false := by
    obtain ⟨A, n, c, ls, h1, _⟩ := hR
    exact h1.frozen 2
  unfold gotV gotE gotA
  by_cases hlt : at_ + m ≤ bs.length
  · rw [if_pos hlt, if_pos hlt, if_pos hlt]
    have C2 := Lib.hid (number_rd w lo g bs at_ m hm hR)
    have x1 : (m : Int) ≤ ((bs.length - at_ : Nat) : Int) := by omega
    have HLT := Lib.hid hlt
    generalize accB bs at_ m = y at *
    clear hR hlt
    go_enter Tryz.func303, Tryz.ntmps303
    go_wp2_with fail
    refine C.out.mono ?_
    rintro e w1 ⟨rfl, q, hq⟩
    have hR1 : Rd w1 lo g bs at_ := by rw [hq]; exact HR.out.drewN q
    have d2 := hR1.cellAt
    have g2 : w1.frozen? ⟨g, 2, none⟩ = false := by rw [hq]; exact f2
    have C4 : Hid (∀ p, Calls Tryz.prog 324 #[.pointer (some ⟨g, 0, none⟩), .int .i64 (at_ : Nat), .int .i64 (m : Nat)] (w1.drewN p) fun e w' => e = .returned (.int .u64 (y : Nat)) ∧ w' = w1.drewN p) := by
      intro p
      have h := C2.out (q + p)
      rw [hq, World.drewN_drewN]
      exact h
    have HR1 := Lib.hid hR1
    have HK1 : Hid (Kept (fun x => x ≠ g) w w1) := by show Kept _ w w1; rw [hq]; exact (Kept.refl _ w).drewN q
    clear hq hR1 C C2 c2 f2
    go_wp2_with fail
    go_quiet (first | (go_at_call 324; exact Calls.quiet_of_same (C4.out _)))
    go_wp2_with fail
    go_ret2
    exact ⟨rfl, (HR1.out.drewN _).moved HLT.out, Kept.set (p := ⟨g, 2, none⟩) (HK1.out.drewN _) (fun h => h rfl) _⟩
  · rw [if_neg hlt, if_neg hlt, if_neg hlt]
    have x1 : ¬ (m : Int) ≤ ((bs.length - at_ : Nat) : Int) := by omega
    clear hR
    go_enter Tryz.func303, Tryz.ntmps303
    go_wp2_with fail
    refine C.out.mono ?_
    rintro e w1 ⟨rfl, q, rfl⟩
    go_wp2_with fail
    go_ret2
    exact ⟨rfl, HR.out.drewN q, (Kept.refl _ w).drewN q⟩
end Go.Proofs.YtmgjgkdbagbleaaGreatDoor.Huff

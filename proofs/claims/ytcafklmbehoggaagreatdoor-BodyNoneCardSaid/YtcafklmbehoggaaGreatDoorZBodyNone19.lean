/-
  The cells of a coder: how they stand when the first k symbols are in. A coder that lies in memory: what its cells hold, and how it lasts. No walk. The walk of huff.New. The walk of huff's Coder.Put: a symbol's word.
-/
import Derived.Test.YtcafklmbehoggaaGreatDoorZBodyNone1
import Derived.Test.YtcafklmbehoggaaGreatDoorZBodyNone3
import Derived.Test.YtcafklmbehoggaaGreatDoorZBodyNone2
import Derived.Test.YtcafklmbehoggaaGreatDoorZBodyNone18
import Derived.BigRegion
import Derived.Deep.RegionLaw
import Derived.Deep.AppendLies
namespace Go.Proofs.YtcafklmbehoggaaGreatDoor.Huff
open Go.RowKit Go.Proofs.YtcafklmbehoggaaGreatDoor.Mem Go.Proofs.YtcafklmbehoggaaGreatDoor.Canon Go.Proofs.YtcafklmbehoggaaGreatDoor.Own
def symsN (ls : List Nat) (l : Nat) : List Nat := if l = 0 then [] else symsOf ls l
theorem symsN_length (ls : List Nat) (l : Nat) : (symsN ls l).length = cn ls l := by
  unfold symsN cn
  split
  · rfl
  · exact symsOf_length l ls
theorem cn_take_succ {ls : List Nat} {k x : Nat} (hx : ls[k]? = some x) (h0 : x ≠ 0) (l : Nat) : cn (ls.take (k + 1)) l = cn (ls.take k) l + if x = l then 1 else 0 := by
  rw [take_snoc hx]
  unfold cn
  split
  · rename_i h; subst h; rw [if_neg h0]
  · rw [cnt_snoc]
theorem cn_take_zero {ls : List Nat} {k : Nat} (hx : ls[k]? = some 0) (l : Nat) : cn (ls.take (k + 1)) l = cn (ls.take k) l := by
  rw [take_snoc hx]
  unfold cn
  split
  · rfl
  · rw [cnt_snoc, if_neg (by omega)]; rfl
theorem symsN_take_succ {ls : List Nat} {k x : Nat} (hx : ls[k]? = some x) (h0 : x ≠ 0) (l : Nat) : symsN (ls.take (k + 1)) l = symsN (ls.take k) l ++ if x = l then [k] else [] := by
  have hk : (ls.take k).length = k := by
    have := (List.getElem?_eq_some_iff.1 hx).1
    rw [List.length_take]; omega
  rw [take_snoc hx]
  unfold symsN
  split
  · rename_i h; subst h; rw [if_neg h0]; rfl
  · rw [symsOf_snoc, hk]
theorem symsN_take_zero {ls : List Nat} {k : Nat} (hx : ls[k]? = some 0) (l : Nat) : symsN (ls.take (k + 1)) l = symsN (ls.take k) l := by
  rw [take_snoc hx]
  unfold symsN
  split
  · rfl
  · rw [symsOf_snoc, if_neg (by omega), List.append_nil]
def firstN (ls : List Nat) (k l : Nat) : Nat := if cn (ls.take k) l = 0 then 0 else fst ls l
def upd (sv : Nat → Value) (l : Nat) (v : Value) : Nat → Value := fun m => if m = l then v else sv m
structure Cells (ls : List Nat) (k : Nat) (vl vc : Value) (sv : Nat → Value) (cs : Array Value) : Prop where
  size : cs.size = 50
  lens : cs[0]? = some vl
  codes : cs[1]? = some vc
  first : ∀ l, l < 16 → cs[2 + l]? = some (.int .i64 (firstN ls k l : Nat))
  many : ∀ l, l < 16 → cs[18 + l]? = some (.int .i64 (cn (ls.take k) l : Nat))
  syms : ∀ l, l < 16 → cs[34 + l]? = some (sv l)
theorem Cells.start (ls : List Nat) (vl vc : Value) : Cells ls 0 vl vc (fun _ => .slice none 0 0)
    #[vl, vc, .int .i64 0, .int .i64 0, .int .i64 0, .int .i64 0, .int .i64 0, .int .i64 0, .int .i64 0, .int .i64 0, .int .i64 0, .int .i64 0, .int .i64 0, .int .i64 0, .int .i64 0, .int .i64 0, .int .i64 0, .int .i64 0,
      .int .i64 0, .int .i64 0, .int .i64 0, .int .i64 0, .int .i64 0, .int .i64 0, .int .i64 0, .int .i64 0, .int .i64 0, .int .i64 0, .int .i64 0, .int .i64 0, .int .i64 0, .int .i64 0, .int .i64 0, .int .i64 0,
      .slice none 0 0, .slice none 0 0, .slice none 0 0, .slice none 0 0, .slice none 0 0, .slice none 0 0, .slice none 0 0, .slice none 0 0, .slice none 0 0, .slice none 0 0, .slice none 0 0, .slice none 0 0, .slice none 0 0, .slice none 0 0, .slice none 0 0, .slice none 0 0] := by
  have hc : ∀ l, cn (ls.take 0) l = 0 := by intro l; simp [cn, cnt_nil]
  have hf : ∀ l, firstN ls 0 l = 0 := by intro l; unfold firstN; rw [if_pos (hc l)]
  refine ⟨rfl, rfl, rfl, fun l hl => ?_, fun l hl => ?_, fun l hl => ?_⟩
  · rw [hf]
    have : l = 0 ∨ l = 1 ∨ l = 2 ∨ l = 3 ∨ l = 4 ∨ l = 5 ∨ l = 6 ∨ l = 7 ∨ l = 8 ∨ l = 9 ∨ l = 10 ∨ l = 11 ∨ l = 12 ∨ l = 13 ∨ l = 14 ∨ l = 15 := by omega
    rcases this with rfl | rfl | rfl | rfl | rfl | rfl | rfl | rfl | rfl | rfl | rfl | rfl | rfl | rfl | rfl | rfl <;> rfl
  · rw [hc]
    have : l = 0 ∨ l = 1 ∨ l = 2 ∨ l = 3 ∨ l = 4 ∨ l = 5 ∨ l = 6 ∨ l = 7 ∨ l = 8 ∨ l = 9 ∨ l = 10 ∨ l = 11 ∨ l = 12 ∨ l = 13 ∨ l = 14 ∨ l = 15 := by omega
    rcases this with rfl | rfl | rfl | rfl | rfl | rfl | rfl | rfl | rfl | rfl | rfl | rfl | rfl | rfl | rfl | rfl <;> rfl
  · have : l = 0 ∨ l = 1 ∨ l = 2 ∨ l = 3 ∨ l = 4 ∨ l = 5 ∨ l = 6 ∨ l = 7 ∨ l = 8 ∨ l = 9 ∨ l = 10 ∨ l = 11 ∨ l = 12 ∨ l = 13 ∨ l = 14 ∨ l = 15 := by omega
    rcases this with rfl | rfl | rfl | rfl | rfl | rfl | rfl | rfl | rfl | rfl | rfl | rfl | rfl | rfl | rfl | rfl <;> rfl
theorem Cells.skip {ls : List Nat} {k : Nat} {vl vc : Value} {sv : Nat → Value} {cs : Array Value} (h : Cells ls k vl vc sv cs) (hx : ls[k]? = some 0) : Cells ls (k + 1) vl vc sv cs := by
  refine ⟨h.size, h.lens, h.codes, fun l hl => ?_, fun l hl => ?_, h.syms⟩
  · rw [h.first l hl]; unfold firstN; rw [cn_take_zero hx]
  · rw [h.many l hl, cn_take_zero hx]
theorem Cells.next {ls : List Nat} {k x c : Nat} {vl vc v : Value} {sv : Nat → Value} {cs : Array Value} (h : Cells ls k vl vc sv cs) (hx : ls[k]? = some x) (h0 : x ≠ 0) (h15 : x ≤ 15) (hc : cn (ls.take k) x = c) (hne : c ≠ 0) :
    Cells ls (k + 1) vl vc (upd sv x v) ((cs.setIfInBounds (18 + x) (.int .i64 ((c + 1 : Nat) : Int))).setIfInBounds (34 + x) v) := by
  have hs := h.size
  refine ⟨by simpa using hs, ?_, ?_, fun l hl => ?_, fun l hl => ?_, fun l hl => ?_⟩
  · rw [Array.getElem?_setIfInBounds_ne (by omega), Array.getElem?_setIfInBounds_ne (by omega), h.lens]
  · rw [Array.getElem?_setIfInBounds_ne (by omega), Array.getElem?_setIfInBounds_ne (by omega), h.codes]
  · rw [Array.getElem?_setIfInBounds_ne (by omega), Array.getElem?_setIfInBounds_ne (by omega), h.first l hl]
    unfold firstN
    rw [cn_take_succ hx h0]
    by_cases e : x = l
    · subst e; rw [if_neg (by omega), if_neg (by simp)]
    · rw [if_neg e]; rfl
  · rw [Array.getElem?_setIfInBounds_ne (by omega), Array.getElem?_setIfInBounds, cn_take_succ hx h0]
    by_cases e : x = l
    · subst e; rw [if_pos rfl, if_pos (by omega), if_pos rfl, hc]
    · rw [if_neg (by omega), if_neg e, h.many l hl]; rfl
  · rw [Array.getElem?_setIfInBounds]
    unfold upd
    by_cases e : x = l
    · subst e; rw [if_pos rfl, if_pos (by simp; omega), if_pos rfl]
    · rw [if_neg (by omega), if_neg (Ne.symm e), Array.getElem?_setIfInBounds_ne (by omega), h.syms l hl]
theorem Cells.fresh {ls : List Nat} {k x : Nat} {vl vc v : Value} {sv : Nat → Value} {cs : Array Value} (h : Cells ls k vl vc sv cs) (hx : ls[k]? = some x) (h0 : x ≠ 0) (h15 : x ≤ 15) (hc : cn (ls.take k) x = 0) :
    Cells ls (k + 1) vl vc (upd sv x v) (((cs.setIfInBounds (2 + x) (.int .i64 (code ls k : Nat))).setIfInBounds (18 + x) (.int .i64 ((0 + 1 : Nat) : Int))).setIfInBounds (34 + x) v) := by
  have hs := h.size
  have hcode : code ls k = fst ls x := by
    rw [code_of hx h0]
    unfold cn at hc
    rw [if_neg h0] at hc
    omega
  refine ⟨by simpa using hs, ?_, ?_, fun l hl => ?_, fun l hl => ?_, fun l hl => ?_⟩
  · rw [Array.getElem?_setIfInBounds_ne (by omega), Array.getElem?_setIfInBounds_ne (by omega), Array.getElem?_setIfInBounds_ne (by omega), h.lens]
  · rw [Array.getElem?_setIfInBounds_ne (by omega), Array.getElem?_setIfInBounds_ne (by omega), Array.getElem?_setIfInBounds_ne (by omega), h.codes]
  · rw [Array.getElem?_setIfInBounds_ne (by omega), Array.getElem?_setIfInBounds_ne (by omega), Array.getElem?_setIfInBounds]
    unfold firstN
    rw [cn_take_succ hx h0]
    by_cases e : x = l
    · subst e; rw [if_pos rfl, if_pos (by omega), if_neg (by simp), hcode]
    · rw [if_neg (by omega), h.first l hl, if_neg e]; rfl
  · rw [Array.getElem?_setIfInBounds_ne (by omega), Array.getElem?_setIfInBounds, cn_take_succ hx h0]
    by_cases e : x = l
    · subst e; rw [if_pos rfl, if_pos (by simp; omega), if_pos rfl, hc]
    · rw [if_neg (by omega), if_neg e, Array.getElem?_setIfInBounds_ne (by omega), h.many l hl]; rfl
  · rw [Array.getElem?_setIfInBounds]
    unfold upd
    by_cases e : x = l
    · subst e; rw [if_pos rfl, if_pos (by simp; omega), if_pos rfl]
    · rw [if_neg (by omega), if_neg (Ne.symm e), Array.getElem?_setIfInBounds_ne (by omega), Array.getElem?_setIfInBounds_ne (by omega), h.syms l hl]
structure Rows (w : World) (base : Nat) (ls : List Nat) (k : Nat) (sv : Nat → Value) : Prop where
  own : ∀ l, l < 16 → w.ownsRow base 3 1 (sv l) (cn (ls.take k) l) (numL .i64 (symsN (ls.take k) l))
  apart : ∀ l m x, l < 16 → m < 16 → l ≠ m → (sv l).ownBlock = some x → (sv m).ownBlock ≠ some x
theorem Rows.start (w : World) (base : Nat) (ls : List Nat) : Rows w base ls 0 (fun _ => .slice none 0 0) := by
  refine ⟨fun l hl => ?_, fun l m x _ _ _ h => by cases h⟩
  have h1 : cn (ls.take 0) l = 0 := by simp [cn, cnt_nil]
  have h2 : symsN (ls.take 0) l = [] := by unfold symsN; split <;> rfl
  rw [h1, h2]
  exact World.ownsRow_nil _ _ _ _
theorem Rows.kept {w w' : World} {base k : Nat} {ls : List Nat} {sv : Nat → Value} (h : Rows w base ls k sv) (hk : ∀ l x, l < 16 → (sv l).ownBlock = some x → w'.heap[x]? = w.heap[x]?) : Rows w' base ls k sv :=
  ⟨fun l hl => own_kept (h.own l hl) (fun x hx => hk l x hl hx), h.apart⟩
theorem Rows.alloc {w : World} {base k : Nat} {ls : List Nat} {sv : Nat → Value} (h : Rows w base ls k sv) (o : Obj) : Rows (w.alloc o) base ls k sv := ⟨fun l hl => (h.own l hl).alloc o, h.apart⟩
theorem Rows.drew {w : World} {base k : Nat} {ls : List Nat} {sv : Nat → Value} (h : Rows w base ls k sv) : Rows w.drew base ls k sv := ⟨h.own, h.apart⟩
theorem Rows.set {w : World} {base k g : Nat} {ls : List Nat} {sv : Nat → Value} {t : TypeId} {cs : Array Value} (h : Rows w base ls k sv) (hg : Blk w g t cs) (ht : 3 ≠ t) (i : Nat) (u : Value) : Rows (w.setCell ⟨g, i, none⟩ u) base ls k sv :=
  h.kept fun l x hl hx => Below.heap_setCell w _ u x (fun e => own_blk (h.own l hl) hg ht (by rw [hx, e]))
theorem Rows.skip {w : World} {base k : Nat} {ls : List Nat} {sv : Nat → Value} (h : Rows w base ls k sv) (hx : ls[k]? = some 0) : Rows w base ls (k + 1) sv :=
  ⟨fun l hl => by rw [cn_take_zero hx, symsN_take_zero hx]; exact h.own l hl, h.apart⟩
theorem Rows.push {w w3 : World} {base k x c g3 cap : Nat} {ls : List Nat} {sv : Nat → Value} (h : Rows w base ls k sv) (hx : ls[k]? = some x) (h0 : x ≠ 0) (h15 : x ≤ 15) (hc : cn (ls.take k) x = c)
    (hown : w3.ownsRow base 3 1 (.slice (some ⟨g3, 0, none⟩) (c + 1) cap) (c + 1) (numL .i64 (symsN (ls.take k) x) ++ [.int .i64 (k : Nat)])) (hg : w.grownBy w3 (sv x).ownBlock) (hat : (sv x).ownBlock = some g3 ∨ g3 = w.heap.size) :
    Rows w3 base ls (k + 1) (upd sv x (.slice (some ⟨g3, 0, none⟩) (c + 1) cap)) := by
  refine ⟨fun l hl => ?_, fun a b y ha hb hab hy => ?_⟩
  · rw [cn_take_succ hx h0, symsN_take_succ hx h0]
    unfold upd
    by_cases e : l = x
    · subst e
      rw [if_pos rfl, if_pos rfl, if_pos rfl, hc]
      simpa [numL] using hown
    · rw [if_neg e, if_neg (Ne.symm e), if_neg (Ne.symm e), List.append_nil]
      refine (h.own l hl).kept hg ?_
      cases hb : (sv l).ownBlock with
      | none => exact .inl rfl
      | some y => exact .inr (fun e2 => h.apart l x y hl (by omega) e hb e2.symm)
  · unfold upd at hy ⊢
    by_cases e1 : a = x
    · subst e1
      rw [if_pos rfl] at hy
      rw [if_neg (Ne.symm hab)]
      have hy : g3 = y := by simpa [Value.ownBlock] using hy
      subst hy
      rcases hat with h1 | h1
      · exact h.apart a b g3 ha hb hab h1
      · intro h2
        have := (World.ownsRow.lt (h.own b hb) g3 h2).2
        omega
    · rw [if_neg e1] at hy
      by_cases e2 : b = x
      · subst e2
        rw [if_pos rfl]
        intro h2
        have h2 : g3 = y := by simpa [Value.ownBlock] using h2
        subst h2
        rcases hat with h1 | h1
        · exact h.apart a b g3 ha hb hab hy h1
        · have := (World.ownsRow.lt (h.own a ha) g3 hy).2
          omega
      · rw [if_neg e2]
        exact h.apart a b y ha hb hab hy
end Go.Proofs.YtcafklmbehoggaaGreatDoor.Huff
namespace Go.Proofs.YtcafklmbehoggaaGreatDoor.Huff
open Go.RowKit Go.Proofs.YtcafklmbehoggaaGreatDoor.Mem Go.Proofs.YtcafklmbehoggaaGreatDoor.Canon Go.Proofs.YtcafklmbehoggaaGreatDoor.Own
def RowIn (w : World) (lo B : Nat) (A : Option Addr) (n s : Nat) (f : Nat → Nat → Value) : Prop :=
  0 < n → ∃ b off, A = some ⟨b, off, none⟩ ∧ (lo ≤ b ∧ b < B) ∧ ∀ i j, i < n → j < s → w.cell? ⟨b, off + (i * s + j), none⟩ = some (f i j)
section
variable {w w' : World} {lo lo' B B' n s : Nat} {A : Option Addr} {f g : Nat → Nat → Value}
theorem RowIn.row (h : RowIn w lo B A n s f) : Row w B A n s f := fun hn => by
  obtain ⟨b, off, e, hb, hc⟩ := h hn
  exact ⟨b, off, e, hb.2, hc⟩
theorem RowIn.keep (h : RowIn w lo B A n s f) (hk : ∀ p : Addr, lo ≤ p.block → p.block < B → w'.cell? p = w.cell? p) : RowIn w' lo B A n s f := fun hn => by
  obtain ⟨b, off, e, hb, hc⟩ := h hn
  exact ⟨b, off, e, hb, fun i j hi hj => (hk _ hb.1 hb.2).trans (hc i j hi hj)⟩
theorem RowIn.mono (h : RowIn w lo B A n s f) (hl : lo' ≤ lo) (hB : B ≤ B') : RowIn w lo' B' A n s f := fun hn => by
  obtain ⟨b, off, e, hb, hc⟩ := h hn
  exact ⟨b, off, e, ⟨by omega, by omega⟩, hc⟩
theorem RowIn.of_own {base : Nat} {e : TypeId} {v : Value} {xs : List Value} {c : Nat} (h : w.ownsRow base e s v n xs) (hv : v = .slice A n c) (hf : ∀ i j, i < n → j < s → xs[i * s + j]? = some (f i j)) : RowIn w base w.heap.size A n s f := fun hn => by
  rcases h.2 with ⟨_, h0⟩ | ⟨g, cap, cur, hv', hb, hh, hnc, _, hcs, htake⟩
  · omega
  · rw [hv] at hv'
    injection hv' with e1 e2 e3
    refine ⟨g, 0, e1, ⟨hb, Blk.lt hh⟩, fun i j hi hj => ?_⟩
    rw [Nat.zero_add, Blk.cell hh]
    have := hf i j hi hj
    rw [← htake, List.getElem?_take] at this
    split at this
    · simpa using this
    · cases this
theorem RowIn.of_blk {t : TypeId} {cs : Array Value} {b : Nat} (h : Blk w b t cs) (hl : lo ≤ b) (hB : b < B) (hf : ∀ i j, i < n → j < s → cs[i * s + j]? = some (f i j)) : RowIn w lo B (some ⟨b, 0, none⟩) n s f :=
  fun _ => ⟨b, 0, rfl, ⟨hl, hB⟩, fun i j hi hj => by rw [Nat.zero_add, h.cell]; exact hf i j hi hj⟩
end
theorem numL_get {k : IntKind} {ls : List Nat} {i : Nat} (h : i < ls.length) : (numL k ls)[i * 1 + 0]? = some (numF k ls i 0) := by
  simp [numL, numF, List.getD_eq_getElem?_getD, h]
structure Coder (w : World) (lo B g : Nat) (ls : List Nat) : Prop where
  ge : lo ≤ g
  lt : g < B
  free : ∀ i, w.frozen? ⟨g, i, none⟩ = false
  lens : ∃ A c, w.cell? ⟨g, 0, none⟩ = some (.slice A ls.length c) ∧ RowIn w lo B A ls.length 1 (numF .u8 ls)
  codes : ∃ A c, w.cell? ⟨g, 1, none⟩ = some (.slice A ls.length c) ∧ RowIn w lo B A ls.length 1 (fun i _ => .int .u16 (codeW ls i : Nat))
  first : ∀ l, l < 16 → w.cell? ⟨g, 2 + l, none⟩ = some (.int .i64 (firstN ls ls.length l : Nat))
  many : ∀ l, l < 16 → w.cell? ⟨g, 18 + l, none⟩ = some (.int .i64 (cn ls l : Nat))
  syms : ∀ l, l < 16 → ∃ A c, w.cell? ⟨g, 34 + l, none⟩ = some (.slice A (cn ls l) c) ∧ RowIn w lo B A (cn ls l) 1 (numF .i64 (symsN ls l))
theorem Coder.keep {w w' : World} {lo B g : Nat} {ls : List Nat} (h : Coder w lo B g ls) (hk : ∀ b, lo ≤ b → b < B → w'.heap[b]? = w.heap[b]?) : Coder w' lo B g ls := by
  have hg := hk g h.ge h.lt
  have hc : ∀ p : Addr, lo ≤ p.block → p.block < B → w'.cell? p = w.cell? p := fun p h1 h2 => World.cell?_of_block (hk p.block h1 h2)
  have hc0 : ∀ i, w'.cell? ⟨g, i, none⟩ = w.cell? ⟨g, i, none⟩ := fun i => World.cell?_of_block (a := ⟨g, i, none⟩) hg
  refine ⟨h.ge, h.lt, fun i => (World.frozen?_of_block (a := ⟨g, i, none⟩) hg).trans (h.free i), ?_, ?_, fun l hl => (hc0 _).trans (h.first l hl), fun l hl => (hc0 _).trans (h.many l hl), fun l hl => ?_⟩
  · obtain ⟨A, c, h1, h2⟩ := h.lens
    exact ⟨A, c, (hc0 _).trans h1, h2.keep hc⟩
  · obtain ⟨A, c, h1, h2⟩ := h.codes
    exact ⟨A, c, (hc0 _).trans h1, h2.keep hc⟩
  · obtain ⟨A, c, h1, h2⟩ := h.syms l hl
    exact ⟨A, c, (hc0 _).trans h1, h2.keep hc⟩
theorem coder_of {w w2 wr : World} {lo g gc n c2 : Nat} {ls : List Nat} {A2 : Option Addr} {sv : Nat → Value} {cs arr : Array Value} (hn : ls.length = n) (hlo : lo ≤ w.heap.size) (z1 : w.heap.size ≤ g) (hg : g = w2.heap.size)
    (blk : Blk wr g 302 cs) (hC : Cells ls n (.slice A2 n c2) (.slice (some ⟨gc, 0, none⟩) n n) sv cs) (hR : Rows wr (g + 1) ls n sv) (rbel : Below g w2 wr)
    (hown2 : w2.ownsRow w.heap.size 5 1 (.slice A2 n c2) n (numL .u8 ls)) (bc2 : Blk w2 gc 190 arr) (hgc : lo ≤ gc) (hW : Wds ls n n arr) : Coder wr lo wr.heap.size g ls := by
  subst hn hg
  have rz := rbel.size
  have htk : ls.take ls.length = ls := List.take_of_length_le (Nat.le_refl _)
  refine ⟨by omega, blk.lt, blk.frozen, ⟨A2, c2, (blk.cell 0).trans hC.lens, ?_⟩, ⟨some ⟨gc, 0, none⟩, ls.length, (blk.cell 1).trans hC.codes, ?_⟩, fun l hl => (blk.cell _).trans (hC.first l hl), fun l hl => ?_, fun l hl => ?_⟩
  · have := RowIn.of_own (f := numF .u8 ls) hown2 rfl (fun i j hi hj => by have e0 : j = 0 := (by omega); subst e0; exact numL_get hi)
    exact (this.keep (fun p _ h2 => rbel.cell h2)).mono hlo rz
  · have := RowIn.of_blk (n := ls.length) (s := 1) (lo := lo) (B := w2.heap.size) (f := fun i _ => .int .u16 (codeW ls i : Nat)) bc2 hgc bc2.lt (fun i j hi hj => by
      obtain rfl : j = 0 := by omega
      rw [Nat.mul_one, Nat.add_zero, hW.2 i hi, if_pos hi])
    exact (this.keep (fun p _ h2 => rbel.cell h2)).mono (Nat.le_refl _) rz
  · have := hC.many l hl
    rw [htk] at this
    exact (blk.cell _).trans this
  · have h1 := hR.own l hl
    rw [htk] at h1
    obtain ⟨A, c, e⟩ := own_shape h1
    have h2 := hC.syms l hl
    rw [e] at h2
    refine ⟨A, c, (blk.cell _).trans h2, ?_⟩
    exact (RowIn.of_own (f := numF .i64 (symsN ls l)) h1 e (fun i j hi hj => by have e0 : j = 0 := (by omega); subst e0; exact numL_get (by rw [symsN_length]; exact hi))).mono (by omega) (Nat.le_refl _)
end Go.Proofs.YtcafklmbehoggaaGreatDoor.Huff
namespace Go.Proofs.YtcafklmbehoggaaGreatDoor.Huff
open Go.RowKit Go.Proofs.YtcafklmbehoggaaGreatDoor.Mem Go.Proofs.YtcafklmbehoggaaGreatDoor.Canon Go.Proofs.YtcafklmbehoggaaGreatDoor.Own
theorem info_int : (Tryz.prog.info? 3).map (fun i => (i.zero, i.size, i.bytes)) = some (some (.int .i64 0), 1, 8) := by kernel_rfl
def NewPost (ls : List Nat) (w : World) (e : Ending) (w' : World) : Prop :=
  ∃ g, e = .returned (.tuple #[.pointer (some ⟨g, 0, none⟩), .int .i64 0]) ∧ Coder w' w.heap.size w'.heap.size g ls ∧ Below w.heap.size w w'
set_option maxHeartbeats 1000000 in
set_option maxRecDepth 100000 in
theorem new_any (w : World) (A : Option Addr) (n c : Nat) (ls : List Nat) (hn : ls.length = n) (hok : okB ls = true) (hnil : A = none → n = 0 ∧ c = 0) (ha : Row w w.heap.size A n 1 (numF .u8 ls)) :
    Calls Tryz.prog 232 #[.slice A n c] w (NewPost ls w) := by
  obtain ⟨hlen, hsm, _⟩ := ok_parts hok
  rw [hn] at hlen
  have C1 := Lib.hid (codes_any w A n c ls hn hok ha)
  have C2 := Lib.hid (fun wx (h : Row wx wx.heap.size A n 1 (numF .u8 ls)) => clone_u8 wx A n c ls hn (by omega) hnil h)
  have HN := Lib.hid hn
  have HSM := Lib.hid hsm
  have HOK := Lib.hid hok
  obtain ⟨j0, hj0, hy0, hy1, hy2⟩ := info_parts info_int
  clear hn hok hsm hnil
  go_enter Tryz.func232, Tryz.ntmps232
  go_wp2_with fail
  refine C1.out.mono ?_
  rintro e w1 ⟨gc, arr, rfl, bc, hw, hgc, hb1⟩
  have z1 := hb1.size
  go_wp2_with fail
  refine (C2.out _ ((ha.below hb1).mono z1)).mono ?_
  rintro e w2 ⟨vl, rfl, hown2, hb2⟩
  have z2 := hb2.size
  have bc2 := bc.step hb2
  have hbel2 : Below w.heap.size w w2 := bel_step hb2 z1 hb1
  have HW := Lib.hid hw
  have hgc2 := bc2.lt
  have ha2 := (ha.below hbel2).mono hbel2.size
  clear hw bc C1 C2
  obtain ⟨A2, c2, rfl⟩ := own_shape hown2
  go_wp2_with fail
  go_loopw [25] (fun i wr => ∃ (k : Nat) (sv : Nat → Value) (cs : Array Value), k ≤ n ∧ i = .int .i64 k ∧ Blk wr w2.heap.size 302 cs ∧ Hid (Cells ls k (.slice A2 n c2) (.slice (some ⟨gc, 0, none⟩) n n) sv cs) ∧ Hid (Rows wr (w2.heap.size + 1) ls k sv) ∧ Below w2.heap.size w2 wr) (fun i _ => n - (intOf i).toNat)
  case atStart => exact ⟨0, _, _, by omega, rfl, Blk.made _ _ _, Cells.start ls _ _, Rows.start _ _ _, bel_alloc0 (Below.refl _ _)⟩
  case round =>
    obtain ⟨k, sv, cs, hk, rfl, blk, hC, hR, rbel⟩ := hrel
    have rz := rbel.size
    by_cases hlt : k < n
    · obtain ⟨b, off, x, rfl, hbb, hx, c0⟩ := num_cell (ha2.below rbel) HN.out hlt
      have HX := Lib.hid hx
      have hx15 := HSM.out x (List.mem_of_getElem? hx)
      have x0 : (0 : Int) ≤ (k : Int) := by omega
      have x1 : (k : Int) < (n : Int) := by omega
      clear hx
      by_cases hx0 : x = 0
      · subst hx0
        go_wp2_with fail
        go_roundw
        case rel =>
          go_light
          exact ⟨k + 1, sv, cs, by omega, by go_num, blk, hC.out.skip HX.out, hR.out.skip HX.out, rbel⟩
        case measure => go_light; simp [intOf]; omega
      · have hcn := cn_le (ls.take k) x
        rw [List.length_take] at hcn
        have xp : 0 < x := by omega
        have y0 : (0 : Int) ≤ (x : Int) := by omega
        have y1 : (x : Int) < 16 := by omega
        have m0 := blk.cell (18 + x)
        rw [hC.out.many x (by omega)] at m0
        obtain ⟨q, hq⟩ : ∃ q, q = cn (ls.take k) x := ⟨_, rfl⟩
        rw [← hq] at m0 hcn
        have HQ := Lib.hid hq
        clear hq
        by_cases hq0 : q = 0
        · have hqt : ((q : Int) == 0) = true := by simp; omega
          have HQ0 := Lib.hid hq0
          clear hq0
          have d0 := (bc2.below rbel hgc2).cell k
          rw [HW.out.2 k hlt, if_pos hlt] at d0
          have f0 := blk.frozen (2 + x)
          have f1 := blk.cell (2 + x)
          rw [hC.out.first x (by omega)] at f1
          have hcl := code_lt HOK.out HX.out hx0
          have hcl2 : code ls k < 65536 := Nat.lt_of_lt_of_le hcl (by have : 2 ^ x ≤ 2 ^ 15 := Nat.pow_le_pow_right (by omega) hx15; omega)
          have hv : codeW ls k = code ls k := Nat.mod_eq_of_lt hcl2
          have hcells := fun v => hC.out.fresh (v := v) HX.out hx0 hx15 (HQ.out.symm.trans HQ0.out)
          rw [hv] at d0
          generalize code ls k = v at *
          have HCS := Lib.hid hcells
          clear hv hcells hcl
          go_upto_region 10 with fail
          go_region
          have blkA := (blk.set (2 + x) (.int .i64 (v : Nat))).drew
          have HCS2 : Hid (∀ v', Cells ls (k + 1) (.slice A2 n c2) (.slice (some ⟨gc, 0, none⟩) n n) (upd sv x v') (((cs.setIfInBounds (2 + x) (.int .i64 (v : Nat))).setIfInBounds (18 + x) (.int .i64 ((q : Int) + 1))).setIfInBounds (34 + x) v')) := by
            rw [HQ0.out]; exact HCS.out
          clear HCS
          have mcell : (cs.setIfInBounds (2 + x) (.int .i64 (v : Nat)))[18 + x]? = some (.int .i64 ((q : Nat) : Int)) := by
            rw [Array.getElem?_setIfInBounds_ne (by omega), hC.out.many x (by omega), ← HQ.out]
          have scell : (cs.setIfInBounds (2 + x) (.int .i64 (v : Nat)))[34 + x]? = some (sv x) := by
            rw [Array.getElem?_setIfInBounds_ne (by omega), hC.out.syms x (by omega)]
          have RA := Lib.hid ((hR.out.set blk (by decide) (2 + x) (.int .i64 (v : Nat))).drew)
          have belA := (bel_set (p := ⟨w2.heap.size, 2 + x, none⟩) (u := .int .i64 (v : Nat)) (Nat.le_refl _) rbel).drew
          have zA := belA.size
          clear m0 f0 f1 d0 c0 blk rbel rz
          generalize cs.setIfInBounds (2 + x) (.int .i64 (v : Nat)) = csA at *
          generalize (wr.setCell ⟨w2.heap.size, 2 + x, none⟩ (.int .i64 (v : Nat))).drew = wA at *
          have mA := blkA.cell (18 + x)
          rw [mcell] at mA
          have fA := blkA.frozen (18 + x)
          have s1 : IntKind.i64.wrap ((q : Int) + 1) = (q : Int) + 1 := IntWalk.i64_in _ (by omega)
          go_upto_region 11 with fail
          go_region
          clear s1 mA fA
          have blkB := (blkA.set (18 + x) (.int .i64 ((q : Int) + 1))).drew
          have RB := Lib.hid ((RA.out.set blkA (by decide) (18 + x) (.int .i64 ((q : Int) + 1))).drew)
          have belB := (bel_set (p := ⟨w2.heap.size, 18 + x, none⟩) (u := .int .i64 ((q : Int) + 1)) (Nat.le_refl _) belA).drew
          have zB := belB.size
          have sB := blkB.cell (34 + x)
          rw [Array.getElem?_setIfInBounds_ne (by omega), scell] at sB
          have fB := blkB.frozen (34 + x)
          have hown := RB.out.own x (by omega)
          rw [← HQ.out] at hown
          have hne := own_blk hown blkB (by decide)
          obtain ⟨AS, cS, hsv⟩ := own_shape hown
          have HSV := Lib.hid hsv
          rw [hsv] at sB hown hne
          clear mcell scell blkA RA belA zA hsv
          generalize (wA.setCell ⟨w2.heap.size, 18 + x, none⟩ (.int .i64 ((q : Int) + 1))).drew = wB at *
          have hgl := blkB.lt
          have hne2 : some w2.heap.size ≠ (Value.slice AS q cS).ownBlock := Ne.symm hne
          go_upto_region 12 with fail
          go_region_law ((refine step_append_lies _ (by rfl) _ _ _ (by rfl) (w2.heap.size + 1) 3 j0 _ 1 8 Tryz.underlying42 hj0 hy0 hy1 hy2 rfl (by omega) (.slice AS q cS) q (numL .i64 (symsN (ls.take k) x)) (by rfl) ((hown.alloc _).drew) ⟨wB.heap.size, 0, none⟩ 1 1 [.int .i64 (k : Nat)] (by rfl) (by rfl) (World.news_of_block (cs := #[.int .i64 (k : Nat)]) (t := 3) (fr := (0, 0)) (heap_alloc_new wB _)) (by intro u hu; simp at hu; subst hu; rfl) (by omega) (by unfold maxLen; omega) (by omega) (by simp; omega) (wB.heap.size + 1) (by simp) ?_; intro g3 cap3 w3 hown3 hgrow hat hlt3; have gb : w3.heap[w2.heap.size]? = wB.heap[w2.heap.size]? := (hgrow.block w2.heap.size (by simp; omega) hne2).trans (Below.heap_alloc wB _ w2.heap.size hgl); have p3 := (World.cell?_of_block (a := ⟨w2.heap.size, 34 + x, none⟩) gb).trans sB; have p4 := (World.frozen?_of_block (a := ⟨w2.heap.size, 34 + x, none⟩) gb).trans fB))
          all_goals
            go_wp2_with fail
            go_roundw
            case measure => go_light; simp [intOf]; omega
            case rel =>
              go_light
              have blk3 : Blk w3 w2.heap.size 302 _ := gb.trans blkB
              have hR3 := Rows.push ((RB.out.alloc _).drew) HX.out hx0 hx15 HQ.out.symm hown3 (by rw [HSV.out]; exact hgrow) (by rw [HSV.out]; simpa using hat)
              refine ⟨k + 1, _, _, by omega, by go_num, blk3.set _ _, HCS2.out _, hR3.set blk3 (by decide) _ _, bel_set (p := ⟨w2.heap.size, 34 + x, none⟩) (Nat.le_refl _) (((bel_alloc zB belB).drew).grown hgrow (by simp; omega) (fun y hy => ?_))⟩
              have := (World.ownsRow.lt hown y hy).1
              omega
        · have hqf : ((q : Int) == 0) = false := by simp; omega
          have hcells := fun v => hC.out.next (v := v) HX.out hx0 hx15 HQ.out.symm hq0
          have HCS2 : Hid (∀ v', Cells ls (k + 1) (.slice A2 n c2) (.slice (some ⟨gc, 0, none⟩) n n) (upd sv x v') ((cs.setIfInBounds (18 + x) (.int .i64 ((q : Int) + 1))).setIfInBounds (34 + x) v')) := hcells
          have mcell : cs[18 + x]? = some (.int .i64 ((q : Nat) : Int)) := by rw [hC.out.many x (by omega), ← HQ.out]
          have scell := hC.out.syms x (by omega)
          have RA := hR
          have belA := rbel
          have zA := rz
          have blkA := blk
          obtain ⟨wA, rfl⟩ : ∃ wA : World, wA = wr := ⟨_, rfl⟩
          clear blk rbel rz hcells hq0
          have mA := blkA.cell (18 + x)
          rw [mcell] at mA
          have fA := blkA.frozen (18 + x)
          have s1 : IntKind.i64.wrap ((q : Int) + 1) = (q : Int) + 1 := IntWalk.i64_in _ (by omega)
          go_upto_region 11 with fail
          go_region
          clear s1 mA fA
          have blkB := (blkA.set (18 + x) (.int .i64 ((q : Int) + 1))).drew
          have RB := Lib.hid ((RA.out.set blkA (by decide) (18 + x) (.int .i64 ((q : Int) + 1))).drew)
          have belB := (bel_set (p := ⟨w2.heap.size, 18 + x, none⟩) (u := .int .i64 ((q : Int) + 1)) (Nat.le_refl _) belA).drew
          have zB := belB.size
          have sB := blkB.cell (34 + x)
          rw [Array.getElem?_setIfInBounds_ne (by omega), scell] at sB
          have fB := blkB.frozen (34 + x)
          have hown := RB.out.own x (by omega)
          rw [← HQ.out] at hown
          have hne := own_blk hown blkB (by decide)
          obtain ⟨AS, cS, hsv⟩ := own_shape hown
          have HSV := Lib.hid hsv
          rw [hsv] at sB hown hne
          clear mcell scell blkA RA belA zA hsv
          generalize (wA.setCell ⟨w2.heap.size, 18 + x, none⟩ (.int .i64 ((q : Int) + 1))).drew = wB at *
          have hgl := blkB.lt
          have hne2 : some w2.heap.size ≠ (Value.slice AS q cS).ownBlock := Ne.symm hne
          go_upto_region 12 with fail
          go_region_law ((refine step_append_lies _ (by rfl) _ _ _ (by rfl) (w2.heap.size + 1) 3 j0 _ 1 8 Tryz.underlying42 hj0 hy0 hy1 hy2 rfl (by omega) (.slice AS q cS) q (numL .i64 (symsN (ls.take k) x)) (by rfl) ((hown.alloc _).drew) ⟨wB.heap.size, 0, none⟩ 1 1 [.int .i64 (k : Nat)] (by rfl) (by rfl) (World.news_of_block (cs := #[.int .i64 (k : Nat)]) (t := 3) (fr := (0, 0)) (heap_alloc_new wB _)) (by intro u hu; simp at hu; subst hu; rfl) (by omega) (by unfold maxLen; omega) (by omega) (by simp; omega) (wB.heap.size + 1) (by simp) ?_; intro g3 cap3 w3 hown3 hgrow hat hlt3; have gb : w3.heap[w2.heap.size]? = wB.heap[w2.heap.size]? := (hgrow.block w2.heap.size (by simp; omega) hne2).trans (Below.heap_alloc wB _ w2.heap.size hgl); have p3 := (World.cell?_of_block (a := ⟨w2.heap.size, 34 + x, none⟩) gb).trans sB; have p4 := (World.frozen?_of_block (a := ⟨w2.heap.size, 34 + x, none⟩) gb).trans fB))
          all_goals
            go_wp2_with fail
            go_roundw
            case measure => go_light; simp [intOf]; omega
            case rel =>
              go_light
              have blk3 : Blk w3 w2.heap.size 302 _ := gb.trans blkB
              have hR3 := Rows.push ((RB.out.alloc _).drew) HX.out hx0 hx15 HQ.out.symm hown3 (by rw [HSV.out]; exact hgrow) (by rw [HSV.out]; simpa using hat)
              refine ⟨k + 1, _, _, by omega, by go_num, blk3.set _ _, HCS2.out _, hR3.set blk3 (by decide) _ _, bel_set (p := ⟨w2.heap.size, 34 + x, none⟩) (Nat.le_refl _) (((bel_alloc zB belB).drew).grown hgrow (by simp; omega) (fun y hy => ?_))⟩
              have := (World.ownsRow.lt hown y hy).1
              omega
    · obtain rfl : k = n := by omega
      go_wp2_with fail
      go_ret2
      exact ⟨w2.heap.size, rfl, coder_of HN.out z1 z2 rfl blk hC.out hR.out rbel hown2 bc2 hgc HW.out, hbel2.trans (rbel.mono hbel2.size)⟩
end Go.Proofs.YtcafklmbehoggaaGreatDoor.Huff
namespace Go.Proofs.YtcafklmbehoggaaGreatDoor.Huff
open Go.RowKit Go.Proofs.YtcafklmbehoggaaGreatDoor.Mem Go.Proofs.YtcafklmbehoggaaGreatDoor.Canon Go.Proofs.YtcafklmbehoggaaGreatDoor.Own
theorem Coder.len {w : World} {lo B gc : Nat} {ls : List Nat} (hC : Coder w lo B gc ls) (hsm : ∀ x ∈ ls, x ≤ 15) (s : Int) (hs : -9223372036854775808 ≤ s ∧ s ≤ 9223372036854775807) :
    Calls Tryz.prog 233 #[.pointer (some ⟨gc, 0, none⟩), .int .i64 s] w fun e w' => e = .returned (.int .i64 (lenAt ls s : Nat)) ∧ w = w' := by
  obtain ⟨A, c, h1, h2⟩ := hC.lens
  exact len_any w gc B A ls.length c ls s rfl hs (fun x hx => by have := hsm x hx; omega) h1 h2.row
theorem Coder.drew {w : World} {lo B g : Nat} {ls : List Nat} (h : Coder w lo B g ls) : Coder w.drew lo B g ls := h.keep fun _ _ _ => rfl
theorem Coder.kept {K : Nat → Prop} {w w' : World} {lo B g : Nat} {ls : List Nat} (h : Coder w lo B g ls) (hk : Kept K w w') (hK : ∀ k, lo ≤ k → k < B → K k) : Coder w' lo B g ls := h.keep fun b h1 h2 => hk.block b (hK b h1 h2)
set_option maxRecDepth 100000 in
theorem cput_any (K : Nat → Prop) (w : World) (lo B gc : Nat) (ls : List Nat) (g base : Nat) (t : TypeId) (rest : List Value) (v : Value) (bs : List Bool) (s : Int) (hs : -9223372036854775808 ≤ s ∧ s ≤ 9223372036854775807)
    (hok : okB ls = true) (hC : Coder w lo B gc ls) (hK : ∀ k, lo ≤ k → k < B → K k) (h0 : lenAt ls s ≠ 0) (hle : bs.length ≤ 5000000) (hW : Wr K w base g t rest bs v) :
    Calls Tryz.prog 193 #[.pointer (some ⟨gc, 0, none⟩), .pointer (some ⟨g, 0, none⟩), .int .i64 s] w
      fun e w' => e = .returned (.int .i64 0) ∧ ∃ v', Wr K w' base g t rest (bs ++ word ls s.toNat) v' ∧ Kept K w w' := by
  obtain ⟨hlen, hsm, _⟩ := ok_parts hok
  obtain ⟨m, x, rfl, hx, hx0⟩ := lenAt_pos h0
  have hx15 := hsm x (List.mem_of_getElem? hx)
  have hm := (List.getElem?_eq_some_iff.1 hx).1
  have hl : lenAt ls (m : Int) = x := by unfold lenAt; rw [if_neg (by omega)]; simp [List.getD_eq_getElem?_getD, hx]
  have hword : word ls m = msb (code ls m) x x := by unfold word; simp [List.getD_eq_getElem?_getD, hx]
  have hcl := code_lt hok hx hx0
  have hcl2 : code ls m < 65536 := Nat.lt_of_lt_of_le hcl (by have : 2 ^ x ≤ 2 ^ 15 := Nat.pow_le_pow_right (by omega) hx15; omega)
  have hcw : codeW ls m = code ls m := Nat.mod_eq_of_lt hcl2
  have C1 := Lib.hid (hC.len hsm (m : Int) hs)
  have C2 := Lib.hid (hC.drew.len hsm (m : Int) hs)
  have C3 := Lib.hid (put_any K w.drew g base t rest v bs (code ls m) x hcl (by omega) (by omega) hW.drew)
  rw [hl] at C1 C2
  rw [← hword] at C3
  rw [Int.toNat_natCast]
  obtain ⟨AC, cC, d0, hrow⟩ := hC.codes
  obtain ⟨bC, oC, rfl, hbC, hcell⟩ := hrow (by omega)
  have KG : Hid (K gc) := hK gc hC.ge hC.lt
  have KB : Hid (K bC) := hK bC hbC.1 hbC.2
  have d1 : w.cell? ⟨bC, oC + m, none⟩ = some (.int .u16 (code ls m : Nat)) := by
    have := hcell m 0 hm (by omega)
    simpa [hcw] using this
  generalize code ls m = cd at *
  generalize ls.length = n at *
  clear hsm hok hx hl hword hcl hcw hcell hrow hC h0 hW hbC hK
  go_enter Tryz.func193, Tryz.ntmps193
  go_wp2_with fail
  refine C1.out.mono ?_
  rintro e w1 ⟨rfl, rfl⟩
  have x0 : (0 : Int) ≤ (m : Int) := by omega
  have x1 : (m : Int) < (n : Int) := by omega
  have hu : IntKind.u64.wrap (cd : Int) = (cd : Int) := by rw [IntKind.wrap_u64]; omega
  rw [← hu] at C3
  clear hu
  go_upto_region 5 with fail
  go_region_held3 (fun wx => wx.cell? ⟨gc, 1, none⟩ = some (.slice (some ⟨bC, oC, none⟩) n cC) ∧ wx.cell? ⟨bC, oC + m, none⟩ = some (.int .u16 cd)) (first | exact ⟨d0, d1⟩ | exact ⟨k0, k1⟩) (first | (go_at_call 233; (with_reducible refine C2.out.mono ?_); rintro e w' ⟨rfl, rfl⟩) | (go_at_call 145; (with_reducible refine C3.out.mono ?_); rintro e w' ⟨rfl, v2, hW2, hk2⟩; have k0 : w'.cell? ⟨gc, 1, none⟩ = some (.slice (some ⟨bC, oC, none⟩) n cC) := (World.cell?_of_block (a := ⟨gc, 1, none⟩) (hk2.block gc KG.out)).trans d0; have k1 : w'.cell? ⟨bC, oC + m, none⟩ = some (.int .u16 cd) := (World.cell?_of_block (a := ⟨bC, oC + m, none⟩) (hk2.block bC KB.out)).trans d1))
  have HW2 := Lib.hid hW2
  have HK2 := Lib.hid hk2
  clear hW2 hk2 k0 k1 C1 C2 C3
  go_wp2_with fail
  go_ret
  exact ⟨rfl, v2, HW2.out, (Kept.refl K w).drew.trans HK2.out⟩
end Go.Proofs.YtcafklmbehoggaaGreatDoor.Huff

/-
  The cells of a coder: how they stand when the first k symbols are in.
-/
import Derived.Test.YtloakdiioaodaaaBitsBase
import Derived.Test.YtloakdiioaodaaaCloneNum
import Derived.Test.YtloakdiioaodaaaOwnBase
namespace Go.Proofs.Ytloakdiioaodaaa.Huff
open Go.RowKit Go.Proofs.Ytloakdiioaodaaa.Mem Go.Proofs.Ytloakdiioaodaaa.Canon Go.Proofs.Ytloakdiioaodaaa.Own

/-- The symbols of a length; none has length 0. -/
def symsN (ls : List Nat) (l : Nat) : List Nat := if l = 0 then [] else symsOf ls l
theorem symsN_length (ls : List Nat) (l : Nat) : (symsN ls l).length = cn ls l := by
  unfold symsN cn
  split
  · rfl
  · exact symsOf_length l ls
theorem cn_take_succ {ls : List Nat} {k x : Nat} (hx : ls[k]? = some x) (h0 : x ≠ 0) (l : Nat) : cn (ls.take (k + 1)) l = cn (ls.take k) l + if x = l then 1 else 0 := by
  rw [take_snoc hx]
  unfold cn
  split
  · rename_i h; subst h; rw [if_neg h0]
  · rw [cnt_snoc]
theorem cn_take_zero {ls : List Nat} {k : Nat} (hx : ls[k]? = some 0) (l : Nat) : cn (ls.take (k + 1)) l = cn (ls.take k) l := by
  rw [take_snoc hx]
  unfold cn
  split
  · rfl
  · rw [cnt_snoc, if_neg (by omega)]; rfl
theorem symsN_take_succ {ls : List Nat} {k x : Nat} (hx : ls[k]? = some x) (h0 : x ≠ 0) (l : Nat) : symsN (ls.take (k + 1)) l = symsN (ls.take k) l ++ if x = l then [k] else [] := by
  have hk : (ls.take k).length = k := by
    have := (List.getElem?_eq_some_iff.1 hx).1
    rw [List.length_take]; omega
  rw [take_snoc hx]
  unfold symsN
  split
  · rename_i h; subst h; rw [if_neg h0]; rfl
  · rw [symsOf_snoc, hk]
theorem symsN_take_zero {ls : List Nat} {k : Nat} (hx : ls[k]? = some 0) (l : Nat) : symsN (ls.take (k + 1)) l = symsN (ls.take k) l := by
  rw [take_snoc hx]
  unfold symsN
  split
  · rfl
  · rw [symsOf_snoc, if_neg (by omega), List.append_nil]

/-- The number of the first word of a length, if a word of it is in. -/
def firstN (ls : List Nat) (k l : Nat) : Nat := if cn (ls.take k) l = 0 then 0 else fst ls l
def upd (sv : Nat → Value) (l : Nat) (v : Value) : Nat → Value := fun m => if m = l then v else sv m

/-- A coder's cells. -/
structure Cells (ls : List Nat) (k : Nat) (vl vc : Value) (sv : Nat → Value) (cs : Array Value) : Prop where
  size : cs.size = 50
  lens : cs[0]? = some vl
  codes : cs[1]? = some vc
  first : ∀ l, l < 16 → cs[2 + l]? = some (.int .i64 (firstN ls k l : Nat))
  many : ∀ l, l < 16 → cs[18 + l]? = some (.int .i64 (cn (ls.take k) l : Nat))
  syms : ∀ l, l < 16 → cs[34 + l]? = some (sv l)
theorem Cells.start (ls : List Nat) (vl vc : Value) : Cells ls 0 vl vc (fun _ => .slice none 0 0)
    #[vl, vc, .int .i64 0, .int .i64 0, .int .i64 0, .int .i64 0, .int .i64 0, .int .i64 0, .int .i64 0, .int .i64 0, .int .i64 0, .int .i64 0, .int .i64 0, .int .i64 0, .int .i64 0, .int .i64 0, .int .i64 0, .int .i64 0,
      .int .i64 0, .int .i64 0, .int .i64 0, .int .i64 0, .int .i64 0, .int .i64 0, .int .i64 0, .int .i64 0, .int .i64 0, .int .i64 0, .int .i64 0, .int .i64 0, .int .i64 0, .int .i64 0, .int .i64 0, .int .i64 0,
      .slice none 0 0, .slice none 0 0, .slice none 0 0, .slice none 0 0, .slice none 0 0, .slice none 0 0, .slice none 0 0, .slice none 0 0, .slice none 0 0, .slice none 0 0, .slice none 0 0, .slice none 0 0, .slice none 0 0, .slice none 0 0, .slice none 0 0, .slice none 0 0] := by
  have hc : ∀ l, cn (ls.take 0) l = 0 := by intro l; simp [cn, cnt_nil]
  have hf : ∀ l, firstN ls 0 l = 0 := by intro l; unfold firstN; rw [if_pos (hc l)]
  refine ⟨rfl, rfl, rfl, fun l hl => ?_, fun l hl => ?_, fun l hl => ?_⟩
  · rw [hf]
    have : l = 0 ∨ l = 1 ∨ l = 2 ∨ l = 3 ∨ l = 4 ∨ l = 5 ∨ l = 6 ∨ l = 7 ∨ l = 8 ∨ l = 9 ∨ l = 10 ∨ l = 11 ∨ l = 12 ∨ l = 13 ∨ l = 14 ∨ l = 15 := by omega
    rcases this with rfl | rfl | rfl | rfl | rfl | rfl | rfl | rfl | rfl | rfl | rfl | rfl | rfl | rfl | rfl | rfl <;> rfl
  · rw [hc]
    have : l = 0 ∨ l = 1 ∨ l = 2 ∨ l = 3 ∨ l = 4 ∨ l = 5 ∨ l = 6 ∨ l = 7 ∨ l = 8 ∨ l = 9 ∨ l = 10 ∨ l = 11 ∨ l = 12 ∨ l = 13 ∨ l = 14 ∨ l = 15 := by omega
    rcases this with rfl | rfl | rfl | rfl | rfl | rfl | rfl | rfl | rfl | rfl | rfl | rfl | rfl | rfl | rfl | rfl <;> rfl
  · have : l = 0 ∨ l = 1 ∨ l = 2 ∨ l = 3 ∨ l = 4 ∨ l = 5 ∨ l = 6 ∨ l = 7 ∨ l = 8 ∨ l = 9 ∨ l = 10 ∨ l = 11 ∨ l = 12 ∨ l = 13 ∨ l = 14 ∨ l = 15 := by omega
    rcases this with rfl | rfl | rfl | rfl | rfl | rfl | rfl | rfl | rfl | rfl | rfl | rfl | rfl | rfl | rfl | rfl <;> rfl
theorem Cells.skip {ls : List Nat} {k : Nat} {vl vc : Value} {sv : Nat → Value} {cs : Array Value} (h : Cells ls k vl vc sv cs) (hx : ls[k]? = some 0) : Cells ls (k + 1) vl vc sv cs := by
  refine ⟨h.size, h.lens, h.codes, fun l hl => ?_, fun l hl => ?_, h.syms⟩
  · rw [h.first l hl]; unfold firstN; rw [cn_take_zero hx]
  · rw [h.many l hl, cn_take_zero hx]
/-- One more symbol: the first word's number is there. -/
theorem Cells.next {ls : List Nat} {k x c : Nat} {vl vc v : Value} {sv : Nat → Value} {cs : Array Value} (h : Cells ls k vl vc sv cs) (hx : ls[k]? = some x) (h0 : x ≠ 0) (h15 : x ≤ 15) (hc : cn (ls.take k) x = c) (hne : c ≠ 0) :
    Cells ls (k + 1) vl vc (upd sv x v) ((cs.setIfInBounds (18 + x) (.int .i64 ((c + 1 : Nat) : Int))).setIfInBounds (34 + x) v) := by
  have hs := h.size
  refine ⟨by simpa using hs, ?_, ?_, fun l hl => ?_, fun l hl => ?_, fun l hl => ?_⟩
  · rw [Array.getElem?_setIfInBounds_ne (by omega), Array.getElem?_setIfInBounds_ne (by omega), h.lens]
  · rw [Array.getElem?_setIfInBounds_ne (by omega), Array.getElem?_setIfInBounds_ne (by omega), h.codes]
  · rw [Array.getElem?_setIfInBounds_ne (by omega), Array.getElem?_setIfInBounds_ne (by omega), h.first l hl]
    unfold firstN
    rw [cn_take_succ hx h0]
    by_cases e : x = l
    · subst e; rw [if_neg (by omega), if_neg (by simp)]
    · rw [if_neg e]; rfl
  · rw [Array.getElem?_setIfInBounds_ne (by omega), Array.getElem?_setIfInBounds, cn_take_succ hx h0]
    by_cases e : x = l
    · subst e; rw [if_pos rfl, if_pos (by omega), if_pos rfl, hc]
    · rw [if_neg (by omega), if_neg e, h.many l hl]; rfl
  · rw [Array.getElem?_setIfInBounds]
    unfold upd
    by_cases e : x = l
    · subst e; rw [if_pos rfl, if_pos (by simp; omega), if_pos rfl]
    · rw [if_neg (by omega), if_neg (Ne.symm e), Array.getElem?_setIfInBounds_ne (by omega), h.syms l hl]
/-- One more symbol, the first of its length. -/
theorem Cells.fresh {ls : List Nat} {k x : Nat} {vl vc v : Value} {sv : Nat → Value} {cs : Array Value} (h : Cells ls k vl vc sv cs) (hx : ls[k]? = some x) (h0 : x ≠ 0) (h15 : x ≤ 15) (hc : cn (ls.take k) x = 0) :
    Cells ls (k + 1) vl vc (upd sv x v) (((cs.setIfInBounds (2 + x) (.int .i64 (code ls k : Nat))).setIfInBounds (18 + x) (.int .i64 ((0 + 1 : Nat) : Int))).setIfInBounds (34 + x) v) := by
  have hs := h.size
  have hcode : code ls k = fst ls x := by
    rw [code_of hx h0]
    unfold cn at hc
    rw [if_neg h0] at hc
    omega
  refine ⟨by simpa using hs, ?_, ?_, fun l hl => ?_, fun l hl => ?_, fun l hl => ?_⟩
  · rw [Array.getElem?_setIfInBounds_ne (by omega), Array.getElem?_setIfInBounds_ne (by omega), Array.getElem?_setIfInBounds_ne (by omega), h.lens]
  · rw [Array.getElem?_setIfInBounds_ne (by omega), Array.getElem?_setIfInBounds_ne (by omega), Array.getElem?_setIfInBounds_ne (by omega), h.codes]
  · rw [Array.getElem?_setIfInBounds_ne (by omega), Array.getElem?_setIfInBounds_ne (by omega), Array.getElem?_setIfInBounds]
    unfold firstN
    rw [cn_take_succ hx h0]
    by_cases e : x = l
    · subst e; rw [if_pos rfl, if_pos (by omega), if_neg (by simp), hcode]
    · rw [if_neg (by omega), h.first l hl, if_neg e]; rfl
  · rw [Array.getElem?_setIfInBounds_ne (by omega), Array.getElem?_setIfInBounds, cn_take_succ hx h0]
    by_cases e : x = l
    · subst e; rw [if_pos rfl, if_pos (by simp; omega), if_pos rfl, hc]
    · rw [if_neg (by omega), if_neg e, Array.getElem?_setIfInBounds_ne (by omega), h.many l hl]; rfl
  · rw [Array.getElem?_setIfInBounds]
    unfold upd
    by_cases e : x = l
    · subst e; rw [if_pos rfl, if_pos (by simp; omega), if_pos rfl]
    · rw [if_neg (by omega), if_neg (Ne.symm e), Array.getElem?_setIfInBounds_ne (by omega), Array.getElem?_setIfInBounds_ne (by omega), h.syms l hl]

/-- The rows of symbols are the call's own, and no two lie in one block. -/
structure Rows (w : World) (base : Nat) (ls : List Nat) (k : Nat) (sv : Nat → Value) : Prop where
  own : ∀ l, l < 16 → w.ownsRow base 3 1 (sv l) (cn (ls.take k) l) (numL .i64 (symsN (ls.take k) l))
  apart : ∀ l m x, l < 16 → m < 16 → l ≠ m → (sv l).ownBlock = some x → (sv m).ownBlock ≠ some x
theorem Rows.start (w : World) (base : Nat) (ls : List Nat) : Rows w base ls 0 (fun _ => .slice none 0 0) := by
  refine ⟨fun l hl => ?_, fun l m x _ _ _ h => by cases h⟩
  have h1 : cn (ls.take 0) l = 0 := by simp [cn, cnt_nil]
  have h2 : symsN (ls.take 0) l = [] := by unfold symsN; split <;> rfl
  rw [h1, h2]
  exact World.ownsRow_nil _ _ _ _
theorem Rows.kept {w w' : World} {base k : Nat} {ls : List Nat} {sv : Nat → Value} (h : Rows w base ls k sv) (hk : ∀ l x, l < 16 → (sv l).ownBlock = some x → w'.heap[x]? = w.heap[x]?) : Rows w' base ls k sv :=
  ⟨fun l hl => own_kept (h.own l hl) (fun x hx => hk l x hl hx), h.apart⟩
theorem Rows.alloc {w : World} {base k : Nat} {ls : List Nat} {sv : Nat → Value} (h : Rows w base ls k sv) (o : Obj) : Rows (w.alloc o) base ls k sv := ⟨fun l hl => (h.own l hl).alloc o, h.apart⟩
theorem Rows.drew {w : World} {base k : Nat} {ls : List Nat} {sv : Nat → Value} (h : Rows w base ls k sv) : Rows w.drew base ls k sv := ⟨h.own, h.apart⟩
theorem Rows.set {w : World} {base k g : Nat} {ls : List Nat} {sv : Nat → Value} {t : TypeId} {cs : Array Value} (h : Rows w base ls k sv) (hg : Blk w g t cs) (ht : 3 ≠ t) (i : Nat) (u : Value) : Rows (w.setCell ⟨g, i, none⟩ u) base ls k sv :=
  h.kept fun l x hl hx => Below.heap_setCell w _ u x (fun e => own_blk (h.own l hl) hg ht (by rw [hx, e]))
theorem Rows.skip {w : World} {base k : Nat} {ls : List Nat} {sv : Nat → Value} (h : Rows w base ls k sv) (hx : ls[k]? = some 0) : Rows w base ls (k + 1) sv :=
  ⟨fun l hl => by rw [cn_take_zero hx, symsN_take_zero hx]; exact h.own l hl, h.apart⟩
theorem Rows.push {w w3 : World} {base k x c g3 cap : Nat} {ls : List Nat} {sv : Nat → Value} (h : Rows w base ls k sv) (hx : ls[k]? = some x) (h0 : x ≠ 0) (h15 : x ≤ 15) (hc : cn (ls.take k) x = c)
    (hown : w3.ownsRow base 3 1 (.slice (some ⟨g3, 0, none⟩) (c + 1) cap) (c + 1) (numL .i64 (symsN (ls.take k) x) ++ [.int .i64 (k : Nat)])) (hg : w.grownBy w3 (sv x).ownBlock) (hat : (sv x).ownBlock = some g3 ∨ g3 = w.heap.size) :
    Rows w3 base ls (k + 1) (upd sv x (.slice (some ⟨g3, 0, none⟩) (c + 1) cap)) := by
  refine ⟨fun l hl => ?_, fun a b y ha hb hab hy => ?_⟩
  · rw [cn_take_succ hx h0, symsN_take_succ hx h0]
    unfold upd
    by_cases e : l = x
    · subst e
      rw [if_pos rfl, if_pos rfl, if_pos rfl, hc]
      simpa [numL] using hown
    · rw [if_neg e, if_neg (Ne.symm e), if_neg (Ne.symm e), List.append_nil]
      refine (h.own l hl).kept hg ?_
      cases hb : (sv l).ownBlock with
      | none => exact .inl rfl
      | some y => exact .inr (fun e2 => h.apart l x y hl (by omega) e hb e2.symm)
  · unfold upd at hy ⊢
    by_cases e1 : a = x
    · subst e1
      rw [if_pos rfl] at hy
      rw [if_neg (Ne.symm hab)]
      have hy : g3 = y := by simpa [Value.ownBlock] using hy
      subst hy
      rcases hat with h1 | h1
      · exact h.apart a b g3 ha hb hab h1
      · intro h2
        have := (World.ownsRow.lt (h.own b hb) g3 h2).2
        omega
    · rw [if_neg e1] at hy
      by_cases e2 : b = x
      · subst e2
        rw [if_pos rfl]
        intro h2
        have h2 : g3 = y := by simpa [Value.ownBlock] using h2
        subst h2
        rcases hat with h1 | h1
        · exact h.apart a b g3 ha hb hab hy h1
        · have := (World.ownsRow.lt (h.own a ha) g3 hy).2
          omega
      · rw [if_neg e2]
        exact h.apart a b y ha hb hab hy
end Go.Proofs.Ytloakdiioaodaaa.Huff

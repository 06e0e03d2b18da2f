/-
  The cells of a coder: how they stand when the first k symbols are in.
  A coder that lies in memory: what its cells hold, and how it lasts. No walk.
-/
import Derived.Test.YtidclmmnfienlaaDoorBitsBase
import Derived.Test.YtidclmmnfienlaaDoorCloneNum
import Derived.Test.YtidclmmnfienlaaDoorOwnBase
import Derived.Test.YtidclmmnfienlaaDoorCanonCodes

namespace Go.Proofs.YtidclmmnfienlaaDoor.Huff
open Go.RowKit Go.Proofs.YtidclmmnfienlaaDoor.Mem Go.Proofs.YtidclmmnfienlaaDoor.Canon Go.Proofs.YtidclmmnfienlaaDoor.Own

/-- The symbols of a length; none has length 0. -/
def symsN (ls : List Nat) (l : Nat) : List Nat := if l = 0 then [] else symsOf ls l
theorem symsN_length (ls : List Nat) (l : Nat) : (symsN ls l).length = cn ls l := by
  unfold symsN cn
  split
  · rfl
  · exact symsOf_length l ls
theorem cn_take_succ {ls : List Nat} {k x : Nat} (hx : ls[k]? = some x) (h0 : x ≠ 0) (l : Nat) : cn (ls.take (k + 1)) l = cn (ls.take k) l + if x = l then 1 else 0 := by
  rw [take_snoc hx]
  unfold cn
  split
  · rename_i h; subst h; rw [if_neg h0]
  · rw [cnt_snoc]
theorem cn_take_zero {ls : List Nat} {k : Nat} (hx : ls[k]? = some 0) (l : Nat) : cn (ls.take (k + 1)) l = cn (ls.take k) l := by
  rw [take_snoc hx]
  unfold cn
  split
  · rfl
  · rw [cnt_snoc, if_neg (by omega)]; rfl
theorem symsN_take_succ {ls : List Nat} {k x : Nat} (hx : ls[k]? = some x) (h0 : x ≠ 0) (l : Nat) : symsN (ls.take (k + 1)) l = symsN (ls.take k) l ++ if x = l then [k] else [] := by
  have hk : (ls.take k).length = k := by
    have := (List.getElem?_eq_some_iff.1 hx).1
    rw [List.length_take]; omega
  rw [take_snoc hx]
  unfold symsN
  split
  · rename_i h; subst h; rw [if_neg h0]; rfl
  · rw [symsOf_snoc, hk]
theorem symsN_take_zero {ls : List Nat} {k : Nat} (hx : ls[k]? = some 0) (l : Nat) : symsN (ls.take (k + 1)) l = symsN (ls.take k) l := by
  rw [take_snoc hx]
  unfold symsN
  split
  · rfl
  · rw [symsOf_snoc, if_neg (by omega), List.append_nil]

/-- The number of the first word of a length, if a word of it is in. -/
def firstN (ls : List Nat) (k l : Nat) : Nat := if cn (ls.take k) l = 0 then 0 else fst ls l
def upd (sv : Nat → Value) (l : Nat) (v : Value) : Nat → Value := fun m => if m = l then v else sv m

/-- A coder's cells. -/
structure Cells (ls : List Nat) (k : Nat) (vl vc : Value) (sv : Nat → Value) (cs : Array Value) : Prop where
  size : cs.size = 50
  lens : cs[0]? = some vl
  codes : cs[1]? = some vc
  first : ∀ l, l < 16 → cs[2 + l]? = some (.int .i64 (firstN ls k l : Nat))
  many : ∀ l, l < 16 → cs[18 + l]? = some (.int .i64 (cn (ls.take k) l : Nat))
  syms : ∀ l, l < 16 → cs[34 + l]? = some (sv l)
theorem Cells.start (ls : List Nat) (vl vc : Value) : Cells ls 0 vl vc (fun _ => .slice none 0 0)
    #[vl, vc, .int .i64 0, .int .i64 0, .int .i64 0, .int .i64 0, .int .i64 0, .int .i64 0, .int .i64 0, .int .i64 0, .int .i64 0, .int .i64 0, .int .i64 0, .int .i64 0, .int .i64 0, .int .i64 0, .int .i64 0, .int .i64 0,
      .int .i64 0, .int .i64 0, .int .i64 0, .int .i64 0, .int .i64 0, .int .i64 0, .int .i64 0, .int .i64 0, .int .i64 0, .int .i64 0, .int .i64 0, .int .i64 0, .int .i64 0, .int .i64 0, .int .i64 0, .int .i64 0,
      .slice none 0 0, .slice none 0 0, .slice none 0 0, .slice none 0 0, .slice none 0 0, .slice none 0 0, .slice none 0 0, .slice none 0 0, .slice none 0 0, .slice none 0 0, .slice none 0 0, .slice none 0 0, .slice none 0 0, .slice none 0 0, .slice none 0 0, .slice none 0 0] := by
  have hc : ∀ l, cn (ls.take 0) l = 0 := by intro l; simp [cn, cnt_nil]
  have hf : ∀ l, firstN ls 0 l = 0 := by intro l; unfold firstN; rw [if_pos (hc l)]
  refine ⟨rfl, rfl, rfl, fun l hl => ?_, fun l hl => ?_, fun l hl => ?_⟩
  · rw [hf]
    have : l = 0 ∨ l = 1 ∨ l = 2 ∨ l = 3 ∨ l = 4 ∨ l = 5 ∨ l = 6 ∨ l = 7 ∨ l = 8 ∨ l = 9 ∨ l = 10 ∨ l = 11 ∨ l = 12 ∨ l = 13 ∨ l = 14 ∨ l = 15 := by omega
    rcases this with rfl | rfl | rfl | rfl | rfl | rfl | rfl | rfl | rfl | rfl | rfl | rfl | rfl | rfl | rfl | rfl <;> rfl
  · rw [hc]
    have : l = 0 ∨ l = 1 ∨ l = 2 ∨ l = 3 ∨ l = 4 ∨ l = 5 ∨ l = 6 ∨ l = 7 ∨ l = 8 ∨ l = 9 ∨ l = 10 ∨ l = 11 ∨ l = 12 ∨ l = 13 ∨ l = 14 ∨ l = 15 := by omega
    rcases this with rfl | rfl | rfl | rfl | rfl | rfl | rfl | rfl | rfl | rfl | rfl | rfl | rfl | rfl | rfl | rfl <;> rfl
  · have : l = 0 ∨ l = 1 ∨ l = 2 ∨ l = 3 ∨ l = 4 ∨ l = 5 ∨ l = 6 ∨ l = 7 ∨ l = 8 ∨ l = 9 ∨ l = 10 ∨ l = 11 ∨ l = 12 ∨ l = 13 ∨ l = 14 ∨ l = 15 := by omega
    rcases this with rfl | rfl | rfl | rfl | rfl | rfl | rfl | rfl | rfl | rfl | rfl | rfl | rfl | rfl | rfl | rfl <;> rfl
theorem Cells.skip {ls : List Nat} {k : Nat} {vl vc : Value} {sv : Nat → Value} {cs : Array Value} (h : Cells ls k vl vc sv cs) (hx : ls[k]? = some 0) : Cells ls (k + 1) vl vc sv cs := by
  refine ⟨h.size, h.lens, h.codes, fun l hl => ?_, fun l hl => ?_, h.syms⟩
  · rw [h.first l hl]; unfold firstN; rw [cn_take_zero hx]
  · rw [h.many l hl, cn_take_zero hx]
/-- One more symbol: the first word's number is there. -/
theorem Cells.next {ls : List Nat} {k x c : Nat} {vl vc v : Value} {sv : Nat → Value} {cs : Array Value} (h : Cells ls k vl vc sv cs) (hx : ls[k]? = some x) (h0 : x ≠ 0) (h15 : x ≤ 15) (hc : cn (ls.take k) x = c) (hne : c ≠ 0) :
    Cells ls (k + 1) vl vc (upd sv x v) ((cs.setIfInBounds (18 + x) (.int .i64 ((c + 1 : Nat) : Int))).setIfInBounds (34 + x) v) := by
  have hs := h.size
  refine ⟨by simpa using hs, ?_, ?_, fun l hl => ?_, fun l hl => ?_, fun l hl => ?_⟩
  · rw [Array.getElem?_setIfInBounds_ne (by omega), Array.getElem?_setIfInBounds_ne (by omega), h.lens]
  · rw [Array.getElem?_setIfInBounds_ne (by omega), Array.getElem?_setIfInBounds_ne (by omega), h.codes]
  · rw [Array.getElem?_setIfInBounds_ne (by omega), Array.getElem?_setIfInBounds_ne (by omega), h.first l hl]
    unfold firstN
    rw [cn_take_succ hx h0]
    by_cases e : x = l
    · subst e; rw [if_neg (by omega), if_neg (by simp)]
    · rw [if_neg e]; rfl
  · rw [Array.getElem?_setIfInBounds_ne (by omega), Array.getElem?_setIfInBounds, cn_take_succ hx h0]
    by_cases e : x = l
    · subst e; rw [if_pos rfl, if_pos (by omega), if_pos rfl, hc]
    · rw [if_neg (by omega), if_neg e, h.many l hl]; rfl
  · rw [Array.getElem?_setIfInBounds]
    unfold upd
    by_cases e : x = l
    · subst e; rw [if_pos rfl, if_pos (by simp; omega), if_pos rfl]
    · rw [if_neg (by omega), if_neg (Ne.symm e), Array.getElem?_setIfInBounds_ne (by omega), h.syms l hl]
/-- One more symbol, the first of its length. -/
theorem Cells.fresh {ls : List Nat} {k x : Nat} {vl vc v : Value} {sv : Nat → Value} {cs : Array Value} (h : Cells ls k vl vc sv cs) (hx : ls[k]? = some x) (h0 : x ≠ 0) (h15 : x ≤ 15) (hc : cn (ls.take k) x = 0) :
    Cells ls (k + 1) vl vc (upd sv x v) (((cs.setIfInBounds (2 + x) (.int .i64 (code ls k : Nat))).setIfInBounds (18 + x) (.int .i64 ((0 + 1 : Nat) : Int))).setIfInBounds (34 + x) v) := by
  have hs := h.size
  have hcode : code ls k = fst ls x := by
    rw [code_of hx h0]
    unfold cn at hc
    rw [if_neg h0] at hc
    omega
  refine ⟨by simpa using hs, ?_, ?_, fun l hl => ?_, fun l hl => ?_, fun l hl => ?_⟩
  · rw [Array.getElem?_setIfInBounds_ne (by omega), Array.getElem?_setIfInBounds_ne (by omega), Array.getElem?_setIfInBounds_ne (by omega), h.lens]
  · rw [Array.getElem?_setIfInBounds_ne (by omega), Array.getElem?_setIfInBounds_ne (by omega), Array.getElem?_setIfInBounds_ne (by omega), h.codes]
  · rw [Array.getElem?_setIfInBounds_ne (by omega), Array.getElem?_setIfInBounds_ne (by omega), Array.getElem?_setIfInBounds]
    unfold firstN
    rw [cn_take_succ hx h0]
    by_cases e : x = l
    · subst e; rw [if_pos rfl, if_pos (by omega), if_neg (by simp), hcode]
    · rw [if_neg (by omega), h.first l hl, if_neg e]; rfl
  · rw [Array.getElem?_setIfInBounds_ne (by omega), Array.getElem?_setIfInBounds, cn_take_succ hx h0]
    by_cases e : x = l
    · subst e; rw [if_pos rfl, if_pos (by simp; omega), if_pos rfl, hc]
    · rw [if_neg (by omega), if_neg e, Array.getElem?_setIfInBounds_ne (by omega), h.many l hl]; rfl
  · rw [Array.getElem?_setIfInBounds]
    unfold upd
    by_cases e : x = l
    · subst e; rw [if_pos rfl, if_pos (by simp; omega), if_pos rfl]
    · rw [if_neg (by omega), if_neg (Ne.symm e), Array.getElem?_setIfInBounds_ne (by omega), Array.getElem?_setIfInBounds_ne (by omega), h.syms l hl]

/-- The rows of symbols are the call's own, and no two lie in one block. -/
structure Rows (w : World) (base : Nat) (ls : List Nat) (k : Nat) (sv : Nat → Value) : Prop where
  own : ∀ l, l < 16 → w.ownsRow base 3 1 (sv l) (cn (ls.take k) l) (numL .i64 (symsN (ls.take k) l))
  apart : ∀ l m x, l < 16 → m < 16 → l ≠ m → (sv l).ownBlock = some x → (sv m).ownBlock ≠ some x
theorem Rows.start (w : World) (base : Nat) (ls : List Nat) : Rows w base ls 0 (fun _ => .slice none 0 0) := by
  refine ⟨fun l hl => ?_, fun l m x _ _ _ h => by cases h⟩
  have h1 : cn (ls.take 0) l = 0 := by simp [cn, cnt_nil]
  have h2 : symsN (ls.take 0) l = [] := by unfold symsN; split <;> rfl
  rw [h1, h2]
  exact World.ownsRow_nil _ _ _ _
theorem Rows.kept {w w' : World} {base k : Nat} {ls : List Nat} {sv : Nat → Value} (h : Rows w base ls k sv) (hk : ∀ l x, l < 16 → (sv l).ownBlock = some x → w'.heap[x]? = w.heap[x]?) : Rows w' base ls k sv :=
  ⟨fun l hl => own_kept (h.own l hl) (fun x hx => hk l x hl hx), h.apart⟩
theorem Rows.alloc {w : World} {base k : Nat} {ls : List Nat} {sv : Nat → Value} (h : Rows w base ls k sv) (o : Obj) : Rows (w.alloc o) base ls k sv := ⟨fun l hl => (h.own l hl).alloc o, h.apart⟩
theorem Rows.drew {w : World} {base k : Nat} {ls : List Nat} {sv : Nat → Value} (h : Rows w base ls k sv) : Rows w.drew base ls k sv := ⟨h.own, h.apart⟩
theorem Rows.set {w : World} {base k g : Nat} {ls : List Nat} {sv : Nat → Value} {t : TypeId} {cs : Array Value} (h : Rows w base ls k sv) (hg : Blk w g t cs) (ht : 3 ≠ t) (i : Nat) (u : Value) : Rows (w.setCell ⟨g, i, none⟩ u) base ls k sv :=
  h.kept fun l x hl hx => Below.heap_setCell w _ u x (fun e => own_blk (h.own l hl) hg ht (by rw [hx, e]))
theorem Rows.skip {w : World} {base k : Nat} {ls : List Nat} {sv : Nat → Value} (h : Rows w base ls k sv) (hx : ls[k]? = some 0) : Rows w base ls (k + 1) sv :=
  ⟨fun l hl => by rw [cn_take_zero hx, symsN_take_zero hx]; exact h.own l hl, h.apart⟩
theorem Rows.push {w w3 : World} {base k x c g3 cap : Nat} {ls : List Nat} {sv : Nat → Value} (h : Rows w base ls k sv) (hx : ls[k]? = some x) (h0 : x ≠ 0) (h15 : x ≤ 15) (hc : cn (ls.take k) x = c)
    (hown : w3.ownsRow base 3 1 (.slice (some ⟨g3, 0, none⟩) (c + 1) cap) (c + 1) (numL .i64 (symsN (ls.take k) x) ++ [.int .i64 (k : Nat)])) (hg : w.grownBy w3 (sv x).ownBlock) (hat : (sv x).ownBlock = some g3 ∨ g3 = w.heap.size) :
    Rows w3 base ls (k + 1) (upd sv x (.slice (some ⟨g3, 0, none⟩) (c + 1) cap)) := by
  refine ⟨fun l hl => ?_, fun a b y ha hb hab hy => ?_⟩
  · rw [cn_take_succ hx h0, symsN_take_succ hx h0]
    unfold upd
    by_cases e : l = x
    · subst e
      rw [if_pos rfl, if_pos rfl, if_pos rfl, hc]
      simpa [numL] using hown
    · rw [if_neg e, if_neg (Ne.symm e), if_neg (Ne.symm e), List.append_nil]
      refine (h.own l hl).kept hg ?_
      cases hb : (sv l).ownBlock with
      | none => exact .inl rfl
      | some y => exact .inr (fun e2 => h.apart l x y hl (by omega) e hb e2.symm)
  · unfold upd at hy ⊢
    by_cases e1 : a = x
    · subst e1
      rw [if_pos rfl] at hy
      rw [if_neg (Ne.symm hab)]
      have hy : g3 = y := by simpa [Value.ownBlock] using hy
      subst hy
      rcases hat with h1 | h1
      · exact h.apart a b g3 ha hb hab h1
      · intro h2
        have := (World.ownsRow.lt (h.own b hb) g3 h2).2
        omega
    · rw [if_neg e1] at hy
      by_cases e2 : b = x
      · subst e2
        rw [if_pos rfl]
        intro h2
        have h2 : g3 = y := by simpa [Value.ownBlock] using h2
        subst h2
        rcases hat with h1 | h1
        · exact h.apart a b g3 ha hb hab hy h1
        · have := (World.ownsRow.lt (h.own a ha) g3 hy).2
          omega
      · rw [if_neg e2]
        exact h.apart a b y ha hb hab hy
end Go.Proofs.YtidclmmnfienlaaDoor.Huff

namespace Go.Proofs.YtidclmmnfienlaaDoor.Huff
open Go.RowKit Go.Proofs.YtidclmmnfienlaaDoor.Mem Go.Proofs.YtidclmmnfienlaaDoor.Canon Go.Proofs.YtidclmmnfienlaaDoor.Own

/-- A row whose block lies from lo on, below B. -/
def RowIn (w : World) (lo B : Nat) (A : Option Addr) (n s : Nat) (f : Nat → Nat → Value) : Prop :=
  0 < n → ∃ b off, A = some ⟨b, off, none⟩ ∧ (lo ≤ b ∧ b < B) ∧ ∀ i j, i < n → j < s → w.cell? ⟨b, off + (i * s + j), none⟩ = some (f i j)
section
variable {w w' : World} {lo lo' B B' n s : Nat} {A : Option Addr} {f g : Nat → Nat → Value}
theorem RowIn.row (h : RowIn w lo B A n s f) : Row w B A n s f := fun hn => by
  obtain ⟨b, off, e, hb, hc⟩ := h hn
  exact ⟨b, off, e, hb.2, hc⟩
theorem RowIn.keep (h : RowIn w lo B A n s f) (hk : ∀ p : Addr, lo ≤ p.block → p.block < B → w'.cell? p = w.cell? p) : RowIn w' lo B A n s f := fun hn => by
  obtain ⟨b, off, e, hb, hc⟩ := h hn
  exact ⟨b, off, e, hb, fun i j hi hj => (hk _ hb.1 hb.2).trans (hc i j hi hj)⟩
theorem RowIn.mono (h : RowIn w lo B A n s f) (hl : lo' ≤ lo) (hB : B ≤ B') : RowIn w lo' B' A n s f := fun hn => by
  obtain ⟨b, off, e, hb, hc⟩ := h hn
  exact ⟨b, off, e, ⟨by omega, by omega⟩, hc⟩
theorem RowIn.congr (h : RowIn w lo B A n s f) (hfg : ∀ i j, i < n → j < s → f i j = g i j) : RowIn w lo B A n s g := fun hn => by
  obtain ⟨b, off, e, hb, hc⟩ := h hn
  exact ⟨b, off, e, hb, fun i j hi hj => by rw [← hfg i j hi hj]; exact hc i j hi hj⟩
theorem RowIn.of_own {base : Nat} {e : TypeId} {v : Value} {xs : List Value} {c : Nat} (h : w.ownsRow base e s v n xs) (hv : v = .slice A n c) (hf : ∀ i j, i < n → j < s → xs[i * s + j]? = some (f i j)) : RowIn w base w.heap.size A n s f := fun hn => by
  rcases h.2 with ⟨_, h0⟩ | ⟨g, cap, cur, hv', hb, hh, hnc, _, hcs, htake⟩
  · omega
  · rw [hv] at hv'
    injection hv' with e1 e2 e3
    refine ⟨g, 0, e1, ⟨hb, Blk.lt hh⟩, fun i j hi hj => ?_⟩
    rw [Nat.zero_add, Blk.cell hh]
    have := hf i j hi hj
    rw [← htake, List.getElem?_take] at this
    split at this
    · simpa using this
    · cases this
theorem RowIn.of_blk {t : TypeId} {cs : Array Value} {b : Nat} (h : Blk w b t cs) (hl : lo ≤ b) (hB : b < B) (hf : ∀ i j, i < n → j < s → cs[i * s + j]? = some (f i j)) : RowIn w lo B (some ⟨b, 0, none⟩) n s f :=
  fun _ => ⟨b, 0, rfl, ⟨hl, hB⟩, fun i j hi hj => by rw [Nat.zero_add, h.cell]; exact hf i j hi hj⟩
end
theorem numL_get {k : IntKind} {ls : List Nat} {i : Nat} (h : i < ls.length) : (numL k ls)[i * 1 + 0]? = some (numF k ls i 0) := by
  simp [numL, numF, List.getD_eq_getElem?_getD, h]

/-- A coder: its blocks lie from lo on, below B. -/
structure Coder (w : World) (lo B g : Nat) (ls : List Nat) : Prop where
  ge : lo ≤ g
  lt : g < B
  free : ∀ i, w.frozen? ⟨g, i, none⟩ = false
  lens : ∃ A c, w.cell? ⟨g, 0, none⟩ = some (.slice A ls.length c) ∧ RowIn w lo B A ls.length 1 (numF .u8 ls)
  codes : ∃ A c, w.cell? ⟨g, 1, none⟩ = some (.slice A ls.length c) ∧ RowIn w lo B A ls.length 1 (fun i _ => .int .u16 (codeW ls i : Nat))
  first : ∀ l, l < 16 → w.cell? ⟨g, 2 + l, none⟩ = some (.int .i64 (firstN ls ls.length l : Nat))
  many : ∀ l, l < 16 → w.cell? ⟨g, 18 + l, none⟩ = some (.int .i64 (cn ls l : Nat))
  syms : ∀ l, l < 16 → ∃ A c, w.cell? ⟨g, 34 + l, none⟩ = some (.slice A (cn ls l) c) ∧ RowIn w lo B A (cn ls l) 1 (numF .i64 (symsN ls l))
theorem Coder.keep {w w' : World} {lo B g : Nat} {ls : List Nat} (h : Coder w lo B g ls) (hk : ∀ b, lo ≤ b → b < B → w'.heap[b]? = w.heap[b]?) : Coder w' lo B g ls := by
  have hg := hk g h.ge h.lt
  have hc : ∀ p : Addr, lo ≤ p.block → p.block < B → w'.cell? p = w.cell? p := fun p h1 h2 => World.cell?_of_block (hk p.block h1 h2)
  have hc0 : ∀ i, w'.cell? ⟨g, i, none⟩ = w.cell? ⟨g, i, none⟩ := fun i => World.cell?_of_block (a := ⟨g, i, none⟩) hg
  refine ⟨h.ge, h.lt, fun i => (World.frozen?_of_block (a := ⟨g, i, none⟩) hg).trans (h.free i), ?_, ?_, fun l hl => (hc0 _).trans (h.first l hl), fun l hl => (hc0 _).trans (h.many l hl), fun l hl => ?_⟩
  · obtain ⟨A, c, h1, h2⟩ := h.lens
    exact ⟨A, c, (hc0 _).trans h1, h2.keep hc⟩
  · obtain ⟨A, c, h1, h2⟩ := h.codes
    exact ⟨A, c, (hc0 _).trans h1, h2.keep hc⟩
  · obtain ⟨A, c, h1, h2⟩ := h.syms l hl
    exact ⟨A, c, (hc0 _).trans h1, h2.keep hc⟩
theorem Coder.below {w w' : World} {lo B g : Nat} {ls : List Nat} (h : Coder w lo B g ls) {C : Nat} (hb : Below C w w') (hC : B ≤ C) : Coder w' lo B g ls :=
  h.keep fun b _ h2 => hb.block b (by omega)
theorem Coder.mono {w : World} {lo lo' B B' g : Nat} {ls : List Nat} (h : Coder w lo B g ls) (hl : lo' ≤ lo) (hB : B ≤ B') : Coder w lo' B' g ls := by
  refine ⟨by have := h.ge; omega, by have := h.lt; omega, h.free, ?_, ?_, h.first, h.many, fun l hx => ?_⟩
  · obtain ⟨A, c, h1, h2⟩ := h.lens
    exact ⟨A, c, h1, h2.mono hl hB⟩
  · obtain ⟨A, c, h1, h2⟩ := h.codes
    exact ⟨A, c, h1, h2.mono hl hB⟩
  · obtain ⟨A, c, h1, h2⟩ := h.syms l hx
    exact ⟨A, c, h1, h2.mono hl hB⟩

/-- What is made is a coder. -/
theorem coder_of {w w2 wr : World} {lo g gc n c2 : Nat} {ls : List Nat} {A2 : Option Addr} {sv : Nat → Value} {cs arr : Array Value} (hn : ls.length = n) (hlo : lo ≤ w.heap.size) (z1 : w.heap.size ≤ g) (hg : g = w2.heap.size)
    (blk : Blk wr g 109 cs) (hC : Cells ls n (.slice A2 n c2) (.slice (some ⟨gc, 0, none⟩) n n) sv cs) (hR : Rows wr (g + 1) ls n sv) (rbel : Below g w2 wr)
    (hown2 : w2.ownsRow w.heap.size 5 1 (.slice A2 n c2) n (numL .u8 ls)) (bc2 : Blk w2 gc 98 arr) (hgc : lo ≤ gc) (hW : Wds ls n n arr) : Coder wr lo wr.heap.size g ls := by
  subst hn hg
  have rz := rbel.size
  have htk : ls.take ls.length = ls := List.take_of_length_le (Nat.le_refl _)
  refine ⟨by omega, blk.lt, blk.frozen, ⟨A2, c2, (blk.cell 0).trans hC.lens, ?_⟩, ⟨some ⟨gc, 0, none⟩, ls.length, (blk.cell 1).trans hC.codes, ?_⟩, fun l hl => (blk.cell _).trans (hC.first l hl), fun l hl => ?_, fun l hl => ?_⟩
  · have := RowIn.of_own (f := numF .u8 ls) hown2 rfl (fun i j hi hj => by have e0 : j = 0 := (by omega); subst e0; exact numL_get hi)
    exact (this.keep (fun p _ h2 => rbel.cell h2)).mono hlo rz
  · have := RowIn.of_blk (n := ls.length) (s := 1) (lo := lo) (B := w2.heap.size) (f := fun i _ => .int .u16 (codeW ls i : Nat)) bc2 hgc bc2.lt (fun i j hi hj => by
      obtain rfl : j = 0 := by omega
      rw [Nat.mul_one, Nat.add_zero, hW.2 i hi, if_pos hi])
    exact (this.keep (fun p _ h2 => rbel.cell h2)).mono (Nat.le_refl _) rz
  · have := hC.many l hl
    rw [htk] at this
    exact (blk.cell _).trans this
  · have h1 := hR.own l hl
    rw [htk] at h1
    obtain ⟨A, c, e⟩ := own_shape h1
    have h2 := hC.syms l hl
    rw [e] at h2
    refine ⟨A, c, (blk.cell _).trans h2, ?_⟩
    exact (RowIn.of_own (f := numF .i64 (symsN ls l)) h1 e (fun i j hi hj => by have e0 : j = 0 := (by omega); subst e0; exact numL_get (by rw [symsN_length]; exact hi))).mono (by omega) (Nat.le_refl _)
end Go.Proofs.YtidclmmnfienlaaDoor.Huff

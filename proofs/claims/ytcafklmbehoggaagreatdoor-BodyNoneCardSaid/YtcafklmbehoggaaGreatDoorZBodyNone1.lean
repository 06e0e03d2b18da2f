/-
  Words for memory, for all walks of this seat: a block that is known whole (Blk); a slice whose elements are known (Row); how they last. Lengths of words, how many there are of each, their weight, the words: plain functions and their laws. The walks of package canon's count, weight and Check. The walks of package canon's weight and Check. Bits and the bytes that hold them: the plain part. Words of a code and the bits that they are written with: the plain part. The symbols of each length, and which symbol's word bits begin with: the plain part. Records of a log: their cells, and when two are the
-/
import Derived.WalkKit
import Derived.ProofKit
import Derived.Lib.Hide
import Derived.Laws.OwnMore
import Derived.Deep.Draws
import Derived.Maps.AppendAt
import Derived.Test.YtcafklmbehoggaaGreatDoorProg
import Derived.BigQuiet
import Derived.BigGuardPart
import Derived.Deep.QuietTactic
import Derived.Deep.Light
import Derived.Laws.Rows
import Derived.Deep.MidRow
import Derived.Deep.DeepCutAuto
namespace Go.Proofs.YtcafklmbehoggaaGreatDoor.Mem
open Go.RowKit
theorem below_drewN {B : Nat} {a w : World} (h : Below B a w) (n : Nat) : Below B a (w.drewN n) := ⟨h.os, h.tape, h.output, h.size, h.block⟩
theorem bel_set {B : Nat} {a w : World} {p : Addr} {u : Value} (hp : B ≤ p.block) (h : Below B a w) : Below B a (w.setCell p u) := h.setCell hp u
theorem bel_alloc {B : Nat} {a w : World} {o : Obj} (hB : B ≤ w.heap.size) (h : Below B a w) : Below B a (w.alloc o) := h.alloc hB o
theorem bel_alloc0 {a w : World} {o : Obj} (h : Below a.heap.size a w) : Below a.heap.size a (w.alloc o) := h.alloc h.size o
theorem bel_step0 {a b c : World} (h : Below b.heap.size b c) (k : Below a.heap.size a b) : Below a.heap.size a c := k.trans (h.mono k.size)
theorem bel_step {B : Nat} {a b c : World} (h : Below b.heap.size b c) (hB : B ≤ b.heap.size) (k : Below B a b) : Below B a c := k.trans (h.mono hB)
theorem ret_bool {a b : Bool} (h : a = b) : Ending.returned (.bool a) = .returned (.bool b) := by rw [h]
theorem ret_int {k : IntKind} {a b : Int} (h : a = b) : Ending.returned (.int k a) = .returned (.int k b) := by rw [h]
def Blk (w : World) (g : Nat) (t : TypeId) (cs : Array Value) : Prop := w.heap[g]? = some (.cells cs t (0, 0))
section
variable {w w' : World} {g : Nat} {t : TypeId} {cs : Array Value}
theorem Blk.lt (h : Blk w g t cs) : g < w.heap.size := by
  unfold Blk at h
  rcases Nat.lt_or_ge g w.heap.size with k | k
  · exact k
  · rw [Array.getElem?_eq_none k] at h; cases h
theorem Blk.cell (h : Blk w g t cs) (i : Nat) : w.cell? ⟨g, i, none⟩ = cs[i]? := by
  unfold Blk at h
  simp [World.cell?, h]
theorem Blk.frozen (h : Blk w g t cs) (i : Nat) : w.frozen? ⟨g, i, none⟩ = false := by
  unfold Blk at h
  simp [World.frozen?, h]
theorem Blk.made (w : World) (t : TypeId) (cs : Array Value) : Blk (w.alloc (.cells cs t)) w.heap.size t cs := heap_alloc_new w _
theorem Blk.made_at (w : World) (t : TypeId) (cs : Array Value) (hg : g = w.heap.size) : Blk (w.alloc (.cells cs t)) g t cs := by subst hg; exact Blk.made w t cs
theorem Blk.drew (h : Blk w g t cs) : Blk w.drew g t cs := h
theorem Blk.alloc (h : Blk w g t cs) (o : Obj) : Blk (w.alloc o) g t cs := (Below.heap_alloc w o g h.lt).trans h
theorem Blk.set (h : Blk w g t cs) (i : Nat) (u : Value) : Blk (w.setCell ⟨g, i, none⟩ u) g t (cs.setIfInBounds i u) := by
  unfold Blk at h ⊢
  simp [World.setCell, Array.getElem?_modify, h]
theorem Blk.far (h : Blk w g t cs) {p : Addr} (hp : g ≠ p.block) (u : Value) : Blk (w.setCell p u) g t cs := (Below.heap_setCell w p u g hp).trans h
theorem Blk.below {B : Nat} (h : Blk w g t cs) (hb : Below B w w') (hg : g < B) : Blk w' g t cs := (hb.block g hg).trans h
theorem Blk.step (h : Blk w g t cs) (hb : Below w.heap.size w w') : Blk w' g t cs := h.below hb h.lt
theorem Blk.grown {row : Option Nat} (h : Blk w g t cs) (hb : w.grownBy w' row) (hg : some g ≠ row) : Blk w' g t cs := (hb.block g h.lt hg).trans h
theorem Blk.apart {g' : Nat} {t' : TypeId} {cs' : Array Value} (h : Blk w g t cs) (h' : Blk w g' t' cs') (hne : t ≠ t') : g ≠ g' := by
  intro e
  subst e
  unfold Blk at h h'
  rw [h] at h'
  injection h' with h'
  injection h' with _ ht
  exact hne ht
end
def Wf (A : Option Addr) (n c : Nat) : Prop := (A = none → n = 0 ∧ c = 0) ∧ n ≤ c
theorem Wf.nil : Wf none 0 0 := ⟨fun _ => ⟨rfl, rfl⟩, Nat.le_refl _⟩
theorem Wf.some {a : Addr} {n c : Nat} (h : n ≤ c) : Wf (Option.some a) n c := ⟨(fun h => by cases h), h⟩
def Row (w : World) (B : Nat) (A : Option Addr) (n s : Nat) (f : Nat → Nat → Value) : Prop :=
  0 < n → ∃ b off, A = some ⟨b, off, none⟩ ∧ b < B ∧ ∀ i j, i < n → j < s → w.cell? ⟨b, off + (i * s + j), none⟩ = some (f i j)
section
variable {w w' : World} {B B' n s : Nat} {A : Option Addr} {f g : Nat → Nat → Value}
theorem Row.zero : Row w B A 0 s f := fun h => absurd h (by omega)
theorem Row.keep (h : Row w B A n s f) (hk : ∀ p : Addr, p.block < B → w'.cell? p = w.cell? p) : Row w' B A n s f := fun hn => by
  obtain ⟨b, off, e, hb, hc⟩ := h hn
  exact ⟨b, off, e, hb, fun i j hi hj => (hk _ hb).trans (hc i j hi hj)⟩
theorem Row.below (h : Row w B A n s f) (hb : Below B w w') : Row w' B A n s f := h.keep fun _ hp => hb.cell hp
theorem Row.mono (h : Row w B A n s f) (hB : B ≤ B') : Row w B' A n s f := fun hn => by
  obtain ⟨b, off, e, hb, hc⟩ := h hn
  exact ⟨b, off, e, by omega, hc⟩
theorem Row.alloc (h : Row w B A n s f) (hB : B ≤ w.heap.size) (o : Obj) : Row (w.alloc o) B A n s f := h.keep fun p hp => World.cell?_alloc_lt (w := w) (a := p) (o := o) (by omega)
theorem Row.of_blk {t : TypeId} {cs : Array Value} {b : Nat} (h : Blk w b t cs) (hB : b < B) (hf : ∀ i j, i < n → j < s → cs[i * s + j]? = some (f i j)) : Row w B (some ⟨b, 0, none⟩) n s f :=
  fun _ => ⟨b, 0, rfl, hB, fun i j hi hj => by rw [Nat.zero_add, h.cell]; exact hf i j hi hj⟩
theorem Row.of_own {base : Nat} {e : TypeId} {v : Value} {xs : List Value} {c : Nat} (h : w.ownsRow base e s v n xs) (hv : v = .slice A n c) (hf : ∀ i j, i < n → j < s → xs[i * s + j]? = some (f i j)) : Row w w.heap.size A n s f := fun hn => by
  rcases h.2 with ⟨_, h0⟩ | ⟨g, cap, cur, hv', _, hh, hnc, _, hcs, htake⟩
  · omega
  · rw [hv] at hv'
    injection hv' with e1 e2 e3
    refine ⟨g, 0, e1, Blk.lt hh, fun i j hi hj => ?_⟩
    rw [Nat.zero_add, Blk.cell hh]
    have := hf i j hi hj
    rw [← htake, List.getElem?_take] at this
    split at this
    · simpa using this
    · cases this
end
theorem own_shape {w : World} {base : Nat} {e : TypeId} {s n : Nat} {v : Value} {xs : List Value} (h : w.ownsRow base e s v n xs) : ∃ A c, v = .slice A n c := by
  rcases h.2 with ⟨rfl, rfl⟩ | ⟨g, cap, cur, rfl, _⟩
  · exact ⟨_, _, rfl⟩
  · exact ⟨_, _, rfl⟩
def ints (k : IntKind) (l : List Int) : Array Value := (l.map (Value.int k)).toArray
theorem ints_get (k : IntKind) (l : List Int) (i : Nat) (h : i < l.length) : (ints k l)[i]? = some (.int k (l.getD i 0)) := by
  simp [ints, h]
theorem ints_set (k : IntKind) (l : List Int) (i : Nat) (x : Int) : (ints k l).setIfInBounds i (.int k x) = ints k (l.set i x) := by
  simp [ints, List.map_set]
end Go.Proofs.YtcafklmbehoggaaGreatDoor.Mem
namespace Go.Proofs.YtcafklmbehoggaaGreatDoor.Canon
open Go.RowKit Go.Proofs.YtcafklmbehoggaaGreatDoor.Mem
def cnt (ls : List Nat) (l : Nat) : Nat := ls.countP (fun x => decide (x = l))
def cn (ls : List Nat) (l : Nat) : Nat := if l = 0 then 0 else cnt ls l
theorem cnt_nil (l : Nat) : cnt [] l = 0 := rfl
theorem cnt_snoc (ls : List Nat) (x l : Nat) : cnt (ls ++ [x]) l = cnt ls l + if x = l then 1 else 0 := by
  unfold cnt
  rw [List.countP_append]
  by_cases h : x = l <;> simp [h]
theorem cnt_le (ls : List Nat) (l : Nat) : cnt ls l ≤ ls.length := List.countP_le_length
theorem cn_le (ls : List Nat) (l : Nat) : cn ls l ≤ ls.length := by
  unfold cn; split
  · omega
  · exact cnt_le ls l
theorem take_snoc {α : Type} {l : List α} {k : Nat} {x : α} (h : l[k]? = some x) : l.take (k + 1) = l.take k ++ [x] := by
  rw [List.take_add_one, h]; rfl
def wsum (ls : List Nat) : Nat → Nat
  | 0 => 0
  | l + 1 => wsum ls l + cn ls l * 2 ^ (15 - l)
def wnum (ls : List Nat) : Nat → Nat
  | 0 => 0
  | l + 1 => wnum ls l + cn ls l
def kraft (ls : List Nat) : Nat := (ls.map fun x => if x = 0 then 0 else 2 ^ (15 - x)).sum
def used (ls : List Nat) : Nat := ls.countP (fun x => decide (x ≠ 0))
theorem cn_cons (x : Nat) (ls : List Nat) (l : Nat) : cn (x :: ls) l = cn ls l + if x ≠ 0 ∧ x = l then 1 else 0 := by
  unfold cn cnt
  by_cases hl : l = 0
  · subst hl
    simp
  · rw [if_neg hl, if_neg hl, List.countP_cons]
    by_cases hx : x = l
    · simp [hx, hl]
    · simp [hx]
theorem wsum_nil : ∀ l, wsum [] l = 0
  | 0 => rfl
  | l + 1 => by rw [wsum, wsum_nil l]; simp [cn, cnt_nil]
theorem wnum_nil : ∀ l, wnum [] l = 0
  | 0 => rfl
  | l + 1 => by rw [wnum, wnum_nil l]; simp [cn, cnt_nil]
theorem wsum_cons (x : Nat) (ls : List Nat) : ∀ l, wsum (x :: ls) l = wsum ls l + if x ≠ 0 ∧ x < l then 2 ^ (15 - x) else 0
  | 0 => by simp [wsum]
  | l + 1 => by
    rw [wsum, wsum_cons x ls l, wsum, cn_cons, Nat.add_mul]
    by_cases h0 : x = 0
    · simp [h0]
    · by_cases h1 : x = l
      · subst h1
        simp [h0]; omega
      · by_cases h2 : x < l
        · have : x < l + 1 := by omega
          simp [h0, h1, h2, this]; omega
        · have : ¬ x < l + 1 := by omega
          simp [h1, h2, this]
theorem wnum_cons (x : Nat) (ls : List Nat) : ∀ l, wnum (x :: ls) l = wnum ls l + if x ≠ 0 ∧ x < l then 1 else 0
  | 0 => by simp [wnum]
  | l + 1 => by
    rw [wnum, wnum_cons x ls l, wnum, cn_cons]
    by_cases h0 : x = 0
    · simp [h0]
    · by_cases h1 : x = l
      · subst h1
        simp [h0]; omega
      · by_cases h2 : x < l
        · have : x < l + 1 := by omega
          simp [h0, h1, h2, this]; omega
        · have : ¬ x < l + 1 := by omega
          simp [h1, h2, this]
theorem wsum_kraft : ∀ (ls : List Nat), (∀ x ∈ ls, x ≤ 15) → wsum ls 16 = kraft ls
  | [], _ => by rw [wsum_nil]; rfl
  | x :: ls, h => by
    have h1 := h x (by simp)
    rw [wsum_cons, wsum_kraft ls (fun y hy => h y (by simp [hy]))]
    unfold kraft
    rw [List.map_cons, List.sum_cons]
    by_cases h0 : x = 0
    · simp [h0]
    · have : x < 16 := by omega
      simp [h0, this]; omega
theorem wnum_used : ∀ (ls : List Nat), (∀ x ∈ ls, x ≤ 15) → wnum ls 16 = used ls
  | [], _ => by rw [wnum_nil]; rfl
  | x :: ls, h => by
    have h1 := h x (by simp)
    rw [wnum_cons, wnum_used ls (fun y hy => h y (by simp [hy]))]
    unfold used
    rw [List.countP_cons]
    by_cases h0 : x = 0
    · simp [h0]
    · have : x < 16 := by omega
      simp [h0, this]
def okB (ls : List Nat) : Bool := decide (ls.length ≤ 300) && ls.all (fun x => decide (x ≤ 15)) && (decide (used ls = 0) || decide (used ls = 1 ∧ cnt ls 1 = 1) || decide (kraft ls = 32768))
def fst (ls : List Nat) : Nat → Nat
  | 0 => 0
  | l + 1 => 2 * (fst ls l + cn ls l)
def code (ls : List Nat) (s : Nat) : Nat := let x := ls.getD s 0; if x = 0 then 0 else fst ls x + cnt (ls.take s) x
def codes (ls : List Nat) : List Nat := (List.range ls.length).map (code ls)
theorem fst_le (ls : List Nat) : ∀ l, fst ls l + 2 * ls.length ≤ 2 ^ (l + 1) * ls.length
  | 0 => by simp [fst]
  | l + 1 => by
    have h1 := fst_le ls l
    have h2 := cn_le ls l
    have h3 : 2 ^ (l + 1 + 1) * ls.length = 2 * (2 ^ (l + 1) * ls.length) := by rw [Nat.pow_succ 2 (l + 1), Nat.mul_comm (2 ^ (l + 1)) 2, Nat.mul_assoc]
    rw [fst, h3]
    omega
def numF (k : IntKind) (l : List Nat) : Nat → Nat → Value := fun i _ => .int k (l.getD i 0 : Nat)
def Cnts (f : Nat → Nat) (n : Nat) (arr : Array Value) : Prop := arr.size = n ∧ ∀ l, l < n → arr[l]? = some (.int .i64 (f l))
theorem Cnts.set {f g : Nat → Nat} {n : Nat} {arr : Array Value} {x v : Nat} (h : Cnts f n arr) (hv : g x = v) (ho : ∀ l, l ≠ x → g l = f l) : Cnts g n (arr.setIfInBounds x (.int .i64 (v : Nat))) := by
  refine ⟨by rw [Array.size_setIfInBounds]; exact h.1, fun l hl => ?_⟩
  rw [Array.getElem?_setIfInBounds]
  by_cases e : x = l
  · subst e
    rw [if_pos rfl, if_pos (by have := h.1; omega), hv]
  · rw [if_neg e, h.2 l hl, ho l (Ne.symm e)]
end Go.Proofs.YtcafklmbehoggaaGreatDoor.Canon
namespace Go.Proofs.YtcafklmbehoggaaGreatDoor.Canon
open Go.RowKit Go.Proofs.YtcafklmbehoggaaGreatDoor.Mem
theorem set_same {cs : Array Value} {i : Nat} {v : Value} (h : cs[i]? = some v) : cs.setIfInBounds i v = cs := by
  apply Array.ext_getElem?
  intro j
  rw [Array.getElem?_setIfInBounds]
  split
  · rename_i e
    subst e
    obtain ⟨hi, _⟩ := Array.getElem?_eq_some_iff.1 h
    rw [if_pos hi, h]
  · rfl
theorem blk_setCells {g : Nat} {t : TypeId} {cs : Array Value} : ∀ (vs : List Value) (o : Nat) (w : World), Blk w g t cs → (∀ j v, vs[j]? = some v → cs[o + j]? = some v) → Blk (w.setCells g o vs) g t cs
  | [], _, _, h, _ => h
  | v :: vs, o, w, h, hc => by
    refine blk_setCells vs (o + 1) _ ?_ (fun j u hu => by rw [show o + 1 + j = o + (j + 1) by omega]; exact hc (j + 1) u hu)
    have := h.set o v
    rwa [set_same (by simpa using hc 0 v rfl)] at this
theorem bel_setCells {B g : Nat} {a : World} (hB : B ≤ g) : ∀ (vs : List Value) (o : Nat) (w : World), Below B a w → Below B a (w.setCells g o vs)
  | [], _, _, h => h
  | _ :: vs, o, _, h => bel_setCells hB vs (o + 1) _ (bel_set (p := ⟨g, o, none⟩) hB h)
theorem there_blk {w : World} {g : Nat} {t : TypeId} {cs : Array Value} (h : Blk w g t cs) : w.there g 0 cs.size := fun j hj => by
  rw [Nat.zero_add]
  exact ⟨by rw [h.cell, Array.getElem?_eq_getElem hj]; rfl, h.frozen j⟩
theorem Cnts.one {f : Nat → Nat} {n : Nat} {arr : Array Value} (h : Cnts f n arr) : arr.all (·.oneCell') = true := by
  rw [Array.all_eq_true]
  intro i hi
  have := h.2 i (by have := h.1; omega)
  rw [Array.getElem?_eq_getElem hi] at this
  injection this with this
  rw [this]
  rfl
theorem Cnts.zero : Cnts (fun _ => 0) 16 #[.int .i64 0, .int .i64 0, .int .i64 0, .int .i64 0, .int .i64 0, .int .i64 0, .int .i64 0, .int .i64 0, .int .i64 0, .int .i64 0, .int .i64 0, .int .i64 0, .int .i64 0, .int .i64 0, .int .i64 0, .int .i64 0] := by
  refine ⟨rfl, fun l hl => ?_⟩
  have : l = 0 ∨ l = 1 ∨ l = 2 ∨ l = 3 ∨ l = 4 ∨ l = 5 ∨ l = 6 ∨ l = 7 ∨ l = 8 ∨ l = 9 ∨ l = 10 ∨ l = 11 ∨ l = 12 ∨ l = 13 ∨ l = 14 ∨ l = 15 := by omega
  rcases this with rfl | rfl | rfl | rfl | rfl | rfl | rfl | rfl | rfl | rfl | rfl | rfl | rfl | rfl | rfl | rfl <;> rfl
theorem results_cell_tmp {P : Program} {fn : Func} {p q : Tmp} {ty : TypeId} (h : fn.results = #[.cell p ty, .tmp q]) (tmps : Array Value) (w : World) (g : Nat) (t : TypeId) (cs : Array Value) (d : TypeDesc) (u : Value)
    (hp : tmps.getD p undef = .pointer (some ⟨g, 0, none⟩)) (hq : tmps.getD q undef = u) (hg : Blk w g t cs)
    (hu : P.underlying ty = some d) (hd : (match d with | .struct _ | .array _ _ => true | _ => false) = true) (hi : (P.info? ty).map (·.size) = some cs.size) :
    (results fn tmps).run P w = .ok (.tuple #[.agg cs, u]) w := by
  have hp' : tmps[p]?.getD undef = .pointer (some ⟨g, 0, none⟩) := by simpa using hp
  have hq' : tmps[q]?.getD undef = u := by simpa using hq
  simp [results, h, hp', hq', asAddr, run_loadVar_row w g t ty cs (0, 0) d hg hu hd hi]
theorem info_counts : (Tryz.prog.info? 361).map (·.size) = some 16 := by kernel_rfl
def goodB (ls : List Nat) : Bool := decide (ls.length ≤ 300) && ls.all (fun x => decide (x ≤ 15))
def CountPost (ls : List Nat) (w : World) (e : Ending) (w' : World) : Prop :=
  ∃ (arr : Array Value) (f : Nat → Nat), e = .returned (.tuple #[.agg arr, .bool (goodB ls)]) ∧ Cnts f 16 arr ∧ (∀ l, f l ≤ 300) ∧ (goodB ls = true → f = cn ls) ∧ Below w.heap.size w w'
theorem num_cell {w : World} {B n : Nat} {A : Option Addr} {k : IntKind} {ls : List Nat} (h : Row w B A n 1 (numF k ls)) (hn : ls.length = n) {i : Nat} (hi : i < n) :
    ∃ b off x, A = some ⟨b, off, none⟩ ∧ b < B ∧ ls[i]? = some x ∧ w.cell? ⟨b, off + i, none⟩ = some (.int k (x : Nat)) := by
  obtain ⟨b, off, e, hb, hc⟩ := h (by omega)
  have hl : i < ls.length := by omega
  have h1 := hc i 0 hi (by omega)
  simp only [numF, Nat.mul_one, Nat.add_zero, List.getD_eq_getElem?_getD, List.getElem?_eq_getElem hl, Option.getD_some] at h1
  exact ⟨b, off, ls[i], e, hb, List.getElem?_eq_getElem hl, h1⟩
set_option maxHeartbeats 1000000 in
set_option maxRecDepth 100000 in
theorem count_any (w : World) (A : Option Addr) (n c : Nat) (ls : List Nat) (hn : ls.length = n) (hN : n ≤ 9223372036854775807) (ha : Row w w.heap.size A n 1 (numF .u8 ls)) :
    Calls Tryz.prog 287 #[.slice A n c] w (CountPost ls w) := by
  have HN := Lib.hid hn
  clear hn
  by_cases hbig : n ≤ 300
  · have hd : decide (300 < n) = false := by simp; omega
    go_enter Tryz.func287, Tryz.ntmps287
    go_wp2_with fail
    go_loopw [12] (fun i wr => ∃ (k : Nat) (arr : Array Value), k ≤ n ∧ i = .int .i64 k ∧ Blk wr w.heap.size 361 arr ∧ Hid (Cnts (cnt (ls.take k)) 16 arr) ∧ Hid (∀ x ∈ ls.take k, x ≤ 15) ∧ Below w.heap.size w wr) (fun i _ => n - (intOf i).toNat)
    case atStart => exact ⟨0, _, by omega, rfl, Blk.made _ _ _, Cnts.zero, fun x hx => by simp at hx, bel_alloc0 (Below.refl _ _)⟩
    case round =>
      obtain ⟨k, arr, hk, rfl, blk, hcnt, hsm, rbel⟩ := hrel
      have hinf : (Tryz.prog.info? 361).map (·.size) = some arr.size := by rw [hcnt.out.1]; exact info_counts
      have HI := Lib.hid hinf
      clear hinf
      have hfree := blk.frozen 0
      by_cases hlt : k < n
      · obtain ⟨b, off, x, rfl, hbb, hx, c0⟩ := num_cell (ha.below rbel) HN.out hlt
        have htk := take_snoc hx
        have HX := Lib.hid hx
        have HTK := Lib.hid htk
        clear hx htk
        by_cases h15 : 15 < x
        · have hbad : goodB ls = false := by
            unfold goodB
            have : ls.all (fun x => decide (x ≤ 15)) = false := by
              rw [List.all_eq_false]
              exact ⟨x, List.mem_of_getElem? HX.out, by simpa using h15⟩
            rw [this, Bool.and_false]
          have HB := Lib.hid hbad
          clear hbad
          go_wp2_with (first
            | (refine wpList_load_row rfl 361 (.tmp 2) rfl w.heap.size (by rfl) _ arr (0, 0) _ blk Tryz.underlying361 rfl HI.out ?_)
            | (refine wpList_store_mid rfl 361 (.tmp 2) _ rfl w.heap.size 0 arr (by rfl) (by rfl) (there_blk blk) HI.out hcnt.out.one ?_))
          have blk2 := blk_setCells arr.toList 0 wr blk (fun j v hv => by rw [Nat.zero_add]; simpa using hv)
          refine bodyPost_ret (results_cell_tmp rfl _ _ w.heap.size _ arr _ (.bool false) rfl rfl blk2 Tryz.underlying361 rfl HI.out) rfl ⟨arr, cnt (ls.take k), by rw [HB.out], hcnt.out, fun l => ?_, (fun h => by rw [HB.out] at h; cases h), bel_setCells (Nat.le_refl _) _ _ _ rbel⟩
          have h1 := cnt_le (ls.take k) l
          rw [List.length_take] at h1
          omega
        · have hget := hcnt.out.2 x (by omega)
          have c1 := blk.cell x
          rw [hget] at c1
          have f1 := blk.frozen x
          have h1 := cnt_le (ls.take k) x
          rw [List.length_take] at h1
          have hnx : Cnts (cnt (ls.take (k + 1))) 16 (arr.setIfInBounds x (.int .i64 ((cnt (ls.take k) x + 1 : Nat) : Int))) := by
            refine hcnt.out.set ?_ fun l hl => ?_
            · rw [HTK.out, cnt_snoc, if_pos rfl]
            · rw [HTK.out, cnt_snoc, if_neg (fun e => hl e.symm)]; rfl
          generalize cnt (ls.take k) x = y at *
          have HNX := Lib.hid hnx
          have hsn : ∀ z ∈ ls.take (k + 1), z ≤ 15 := by
            intro z hz
            rw [HTK.out, List.mem_append, List.mem_singleton] at hz
            rcases hz with hz | rfl
            · exact hsm.out z hz
            · omega
          have HSN := Lib.hid hsn
          clear hget hnx hsn
          have x1 : (x : Int) < 16 := by omega
          have x0 : (0 : Int) ≤ (x : Int) := by omega
          go_wp2_with fail
          go_roundw
          case rel =>
            go_light
            exact ⟨k + 1, _, by omega, by go_num, blk.set x _, HNX, HSN, bel_set (p := ⟨w.heap.size, x, none⟩) (Nat.le_refl _) rbel⟩
          case measure => go_light; simp [intOf]; omega
      · obtain rfl : k = n := by omega
        have hall : ls.take k = ls := List.take_of_length_le (by have := HN.out; omega)
        have hgood : goodB ls = true := by
          have := hsm.out
          rw [hall] at this
          unfold goodB
          rw [Bool.and_eq_true, List.all_eq_true]
          exact ⟨by have := HN.out; simp; omega, fun x hx => by simpa using this x hx⟩
        have HG := Lib.hid hgood
        have hc := hcnt.out
        rw [hall] at hc
        have h0 : Cnts (cn ls) 16 (arr.setIfInBounds 0 (.int .i64 ((0 : Nat) : Int))) := hc.set (by simp [cn]) (fun l hl => by simp [cn, hl])
        have H0 := Lib.hid h0
        have hc0 := blk.cell 0
        rw [hc.2 0 (by omega)] at hc0
        generalize cnt ls 0 = y at hc0
        have blk1 := blk.set 0 (.int .i64 0)
        have hfr1 := blk1.frozen 0
        have hinf1 : (Tryz.prog.info? 361).map (·.size) = some (arr.setIfInBounds 0 (.int .i64 0)).size := by rw [Array.size_setIfInBounds]; exact HI.out
        have HI1 := Lib.hid hinf1
        have HONE := Lib.hid h0.one
        clear hall hgood hc h0 hinf1
        obtain ⟨arr1, ha1⟩ : ∃ arr1, arr1 = arr.setIfInBounds 0 (.int .i64 0) := ⟨_, rfl⟩
        have H0' : Hid (Cnts (cn ls) 16 arr1) := by rw [ha1]; exact H0
        have HONE' : Hid (arr1.all (·.oneCell') = true) := by rw [ha1]; exact HONE
        rw [← ha1] at blk1 HI1
        clear H0 HONE ha1
        go_wp2_with (first
            | (refine wpList_load_row rfl 361 (.tmp 2) rfl w.heap.size (by rfl) _ arr1 (0, 0) _ blk1 Tryz.underlying361 rfl HI1.out ?_)
            | (refine wpList_store_mid rfl 361 (.tmp 2) _ rfl w.heap.size 0 arr1 (by rfl) (by rfl) (there_blk blk1) HI1.out HONE'.out ?_))
        have blk2 := blk_setCells arr1.toList 0 _ blk1 (fun j v hv => by rw [Nat.zero_add]; simpa using hv)
        refine bodyPost_ret (results_cell_tmp rfl _ _ w.heap.size _ arr1 _ (.bool true) rfl rfl blk2 Tryz.underlying361 rfl HI1.out) rfl ⟨arr1, cn ls, by rw [HG.out], H0'.out, fun l => ?_, (fun _ => rfl), bel_setCells (Nat.le_refl _) _ _ _ (bel_set (p := ⟨w.heap.size, 0, none⟩) (Nat.le_refl _) rbel)⟩
        have h1 := cn_le ls l
        have := HN.out
        omega
  · have hbad : goodB ls = false := by
      unfold goodB
      have : decide (ls.length ≤ 300) = false := by simp; have := HN.out; omega
      rw [this, Bool.false_and]
    have HB := Lib.hid hbad
    clear hbad
    have blk : Blk (w.alloc (.cells #[.int .i64 0, .int .i64 0, .int .i64 0, .int .i64 0, .int .i64 0, .int .i64 0, .int .i64 0, .int .i64 0, .int .i64 0, .int .i64 0, .int .i64 0, .int .i64 0, .int .i64 0, .int .i64 0, .int .i64 0, .int .i64 0] 361)) w.heap.size 361 _ := Blk.made _ _ _
    go_enter Tryz.func287, Tryz.ntmps287
    go_wp2_with (first
        | (refine wpList_load_row rfl 361 (.tmp 2) rfl w.heap.size (by rfl) _ _ (0, 0) _ blk Tryz.underlying361 rfl info_counts ?_)
        | (refine wpList_store_mid rfl 361 (.tmp 2) _ rfl w.heap.size 0 _ (by rfl) (by rfl) (there_blk blk) info_counts Cnts.zero.one ?_))
    have blk2 := blk_setCells _ 0 _ blk (fun j v hv => by rw [Nat.zero_add]; simpa using hv)
    refine bodyPost_ret (results_cell_tmp rfl _ _ w.heap.size _ _ _ (.bool false) rfl rfl blk2 Tryz.underlying361 rfl info_counts) rfl ⟨_, _, by rw [HB.out], Cnts.zero, fun l => by omega, (fun h => by rw [HB.out] at h; cases h), bel_setCells (Nat.le_refl _) _ _ _ (bel_alloc0 (Below.refl _ _))⟩
end Go.Proofs.YtcafklmbehoggaaGreatDoor.Canon
namespace Go.Proofs.YtcafklmbehoggaaGreatDoor.Canon
open Go.RowKit Go.Proofs.YtcafklmbehoggaaGreatDoor.Mem
def wsF (f : Nat → Nat) : Nat → Nat
  | 0 => 0
  | l + 1 => wsF f l + (if l = 0 then 0 else f l) * 2 ^ (15 - l)
def wnF (f : Nat → Nat) : Nat → Nat
  | 0 => 0
  | l + 1 => wnF f l + (if l = 0 then 0 else f l)
theorem wsF_cn (ls : List Nat) : ∀ l, wsF (cn ls) l = wsum ls l
  | 0 => rfl
  | l + 1 => by
    rw [wsF, wsum, wsF_cn ls l]
    by_cases h : l = 0 <;> simp [h, cn]
theorem wnF_cn (ls : List Nat) : ∀ l, wnF (cn ls) l = wnum ls l
  | 0 => rfl
  | l + 1 => by
    rw [wnF, wnum, wnF_cn ls l]
    by_cases h : l = 0 <;> simp [h, cn]
theorem wsF_le (f : Nat → Nat) (hf : ∀ l, f l ≤ 300) : ∀ l, wsF f l ≤ l * 9830400
  | 0 => by simp [wsF]
  | l + 1 => by
    have h1 := wsF_le f hf l
    have h2 := hf l
    have h3 : 2 ^ (15 - l) ≤ 2 ^ 15 := Nat.pow_le_pow_right (by omega) (by omega)
    have h4 : (if l = 0 then 0 else f l) * 2 ^ (15 - l) ≤ 300 * 32768 := Nat.mul_le_mul (by split <;> omega) h3
    rw [wsF, Nat.add_mul]
    omega
theorem wnF_le (f : Nat → Nat) (hf : ∀ l, f l ≤ 300) : ∀ l, wnF f l ≤ l * 300
  | 0 => by simp [wnF]
  | l + 1 => by
    have h1 := wnF_le f hf l
    have h2 := hf l
    have h3 : (if l = 0 then 0 else f l) ≤ 300 := by split <;> omega
    rw [wnF, Nat.add_mul]
    omega
set_option maxHeartbeats 1000000 in
set_option maxRecDepth 100000 in
theorem weight_any (w : World) (arr : Array Value) (f : Nat → Nat) (hc : Cnts f 16 arr) (hf : ∀ l, f l ≤ 300) :
    Calls Tryz.prog 288 #[.agg arr] w fun e w' => e = .returned (.tuple #[.int .i64 (wsF f 16 : Nat), .int .i64 (wnF f 16 : Nat)]) ∧ Below w.heap.size w w' := by
  have HC := Lib.hid hc
  have HF := Lib.hid hf
  have hsz := hc.1
  have HSZ := Lib.hid hsz
  clear hc hf hsz
  go_enter Tryz.func288, Tryz.ntmps288
  go_wp2_with fail
  go_loopw [2, 3, 4] (fun s n i wr => ∃ (l S N : Nat), 1 ≤ l ∧ l ≤ 16 ∧ i = .int .i64 l ∧ s = .int .i64 S ∧ n = .int .i64 N ∧ Hid (S = wsF f l) ∧ Hid (N = wnF f l) ∧ S ≤ 157286400 ∧ N ≤ 4800 ∧ Blk wr w.heap.size 361 arr ∧ Below w.heap.size w wr) (fun _ _ i _ => 16 - (intOf i).toNat)
  case atStart => exact ⟨1, 0, 0, by omega, by omega, rfl, rfl, rfl, rfl, rfl, by omega, by omega, Blk.made _ _ _, bel_alloc0 (Below.refl _ _)⟩
  case round =>
    obtain ⟨l, S, N, hl1, hl2, rfl, rfl, rfl, hS, hN, bS, bN, blk, rbel⟩ := hrel
    by_cases hlt : l < 16
    · have c0 := blk.cell l
      rw [HC.out.2 l hlt] at c0
      have hfl := HF.out l
      have hs1 : S + f l * 2 ^ (15 - l) = wsF f (l + 1) := by rw [wsF, if_neg (by omega), hS.out]
      have hn1 : N + f l = wnF f (l + 1) := by rw [wnF, if_neg (by omega), hN.out]
      have b1 := wsF_le f HF.out (l + 1)
      have b2 := wnF_le f HF.out (l + 1)
      rw [← hs1] at b1
      rw [← hn1] at b2
      have HS1 := Lib.hid hs1
      have HN1 := Lib.hid hn1
      clear hs1 hn1
      generalize f l = y at *
      have x0 : (0 : Int) ≤ (l : Int) := by omega
      have x1 : (l : Int) < 16 := by omega
      go_wp2_with fail
      go_roundw
      case rel =>
        go_light
        have b3 : (l + 1) * 9830400 ≤ 16 * 9830400 := Nat.mul_le_mul_right _ (by omega)
        have b4 : (l + 1) * 300 ≤ 16 * 300 := Nat.mul_le_mul_right _ (by omega)
        generalize hz : y * 2 ^ (15 - l) = z at *
        have e1 : wrap64 ((y : Int) * 2 ^ (15 - l)) = (z : Int) := by
          have : ((y : Int) * 2 ^ (15 - l)) = ((z : Nat) : Int) := by rw [← hz]; simp
          rw [this]
          exact IntWalk.wrap64_in _ ⟨by omega, by omega⟩
        have e2 : wrap64 ((S : Int) + (z : Int)) = ((S + z : Nat) : Int) := by
          rw [IntWalk.wrap64_in _ ⟨by omega, by omega⟩]; simp
        exact ⟨l + 1, S + z, N + y, by omega, by omega, by go_num, by rw [e1, e2], by go_num, HS1, HN1, by omega, by omega, blk, rbel⟩
      case measure => go_light; simp [intOf]; omega
    · obtain rfl : l = 16 := by omega
      go_wp2_with fail
      go_ret2
      go_light
      exact ⟨by rw [← hS.out, ← hN.out]; rfl, rbel⟩
theorem good_of {ls : List Nat} (h : goodB ls = true) : ls.length ≤ 300 ∧ ∀ x ∈ ls, x ≤ 15 := by
  unfold goodB at h
  rw [Bool.and_eq_true, List.all_eq_true] at h
  exact ⟨by simpa using h.1, fun x hx => by simpa using h.2 x hx⟩
def checkE (ls : List Nat) : Int := if okB ls = true then 0 else 7
theorem okB_good {ls : List Nat} (h : goodB ls = false) : okB ls = false := by
  unfold okB
  unfold goodB at h
  rw [h, Bool.false_and]
theorem okB_of {ls : List Nat} (h : goodB ls = true) : okB ls = (decide (wnum ls 16 = 0) || decide (wnum ls 16 = 1 ∧ cn ls 1 = 1) || decide (wsum ls 16 = 32768)) := by
  obtain ⟨_, h2⟩ := good_of h
  unfold okB
  unfold goodB at h
  rw [h, Bool.true_and, wsum_kraft ls h2, wnum_used ls h2]
  rfl
theorem blk_over {g : Nat} {t : TypeId} : ∀ (vs pre old : List Value) (w : World), old.length = vs.length → Blk w g t (pre ++ old).toArray → Blk (w.setCells g pre.length vs) g t (pre ++ vs).toArray
  | [], pre, old, w, hl, h => by
    have : old = [] := List.eq_nil_of_length_eq_zero hl
    subst this
    exact h
  | v :: vs, pre, [], w, hl, h => by simp at hl
  | v :: vs, pre, x :: old, w, hl, h => by
    have h1 := h.set pre.length v
    have e1 : (pre ++ x :: old).toArray.setIfInBounds pre.length v = ((pre ++ [v]) ++ old).toArray := by
      apply Array.ext'
      simp
    rw [e1] at h1
    have := blk_over vs (pre ++ [v]) old _ (by simpa using hl) h1
    simpa [World.setCells] using this
theorem blk_over0 {g : Nat} {t : TypeId} {cs arr : Array Value} {w : World} (h : Blk w g t cs) (hs : arr.size = cs.size) : Blk (w.setCells g 0 arr.toList) g t arr := by
  have := blk_over (g := g) (t := t) arr.toList [] cs.toList w (by simp [hs]) (by simpa using h)
  simpa using this
theorem checkE_of (ls : List Nat) (f : Nat → Nat) (hg : goodB ls = true → f = cn ls) : checkE ls = if goodB ls = true ∧ (wnF f 16 = 0 ∨ (wnF f 16 = 1 ∧ f 1 = 1) ∨ wsF f 16 = 32768) then 0 else 7 := by
  unfold checkE
  cases hb : goodB ls
  · rw [okB_good hb]; simp
  · rw [okB_of hb, hg hb, wsF_cn, wnF_cn]
    by_cases h1 : wnum ls 16 = 0 <;> by_cases h2 : (wnum ls 16 = 1 ∧ cn ls 1 = 1) <;> by_cases h3 : wsum ls 16 = 32768 <;> simp [h1, h2, h3]
set_option maxHeartbeats 1000000 in
set_option maxRecDepth 100000 in
theorem check_any (w : World) (A : Option Addr) (n c : Nat) (ls : List Nat) (hn : ls.length = n) (hN : n ≤ 9223372036854775807) (ha : Row w w.heap.size A n 1 (numF .u8 ls)) :
    Calls Tryz.prog 267 #[.slice A n c] w fun e w' => e = .returned (.int .i64 (checkE ls)) ∧ Below w.heap.size w w' := by
  have C := Lib.hid (count_any w A n c ls hn hN ha)
  clear hn ha
  go_enter Tryz.func267, Tryz.ntmps267
  go_wp2_with fail
  refine C.out.mono ?_
  rintro e w1 ⟨arr, f, rfl, hc, hf, hg, hb1⟩
  have hsz : arr.size = 16 := hc.1
  have hch := checkE_of ls f hg
  have bl0 : Blk (w1.alloc (.cells #[.int .i64 0, .int .i64 0, .int .i64 0, .int .i64 0, .int .i64 0, .int .i64 0, .int .i64 0, .int .i64 0, .int .i64 0, .int .i64 0, .int .i64 0, .int .i64 0, .int .i64 0, .int .i64 0, .int .i64 0, .int .i64 0] 361)) w1.heap.size 361 _ := Blk.made _ _ _
  have bl1 := blk_over0 (arr := arr) bl0 (by rw [hsz]; rfl)
  have hth : (w1.alloc (.cells #[.int .i64 0, .int .i64 0, .int .i64 0, .int .i64 0, .int .i64 0, .int .i64 0, .int .i64 0, .int .i64 0, .int .i64 0, .int .i64 0, .int .i64 0, .int .i64 0, .int .i64 0, .int .i64 0, .int .i64 0, .int .i64 0] 361)).there w1.heap.size 0 arr.size := by
    rw [hsz]; exact there_blk bl0
  have hinf : (Tryz.prog.info? 361).map (·.size) = some arr.size := by rw [hsz]; exact info_counts
  have bel1 : Below w.heap.size w ((w1.alloc (.cells #[.int .i64 0, .int .i64 0, .int .i64 0, .int .i64 0, .int .i64 0, .int .i64 0, .int .i64 0, .int .i64 0, .int .i64 0, .int .i64 0, .int .i64 0, .int .i64 0, .int .i64 0, .int .i64 0, .int .i64 0, .int .i64 0] 361)).setCells w1.heap.size 0 arr.toList) :=
    bel_setCells hb1.size _ _ _ (bel_alloc hb1.size hb1)
  have HONE := Lib.hid hc.one
  have HINF := Lib.hid hinf
  have HC := Lib.hid hc
  have HF := Lib.hid hf
  have HCH := Lib.hid hch
  clear hsz hinf hc hf hch hg bl0
  go_upto_region 2 with (refine wpList_store_mid rfl 361 (.tmp 3) (.tmp 10) rfl w1.heap.size 0 arr (by rfl) (by rfl) hth HINF.out HONE.out ?_)
  have hz1 : w1.heap.size < (World.heap ((w1.alloc (.cells #[.int .i64 0, .int .i64 0, .int .i64 0, .int .i64 0, .int .i64 0, .int .i64 0, .int .i64 0, .int .i64 0, .int .i64 0, .int .i64 0, .int .i64 0, .int .i64 0, .int .i64 0, .int .i64 0, .int .i64 0, .int .i64 0] 361)).setCells w1.heap.size 0 arr.toList)).size := bl1.lt
  clear hth
  generalize (w1.alloc (.cells #[.int .i64 0, .int .i64 0, .int .i64 0, .int .i64 0, .int .i64 0, .int .i64 0, .int .i64 0, .int .i64 0, .int .i64 0, .int .i64 0, .int .i64 0, .int .i64 0, .int .i64 0, .int .i64 0, .int .i64 0, .int .i64 0] 361)).setCells w1.heap.size 0 arr.toList = w2 at *
  go_wp2_with (refine wpList_load_row rfl 361 (.tmp 3) rfl w1.heap.size (by rfl) _ arr (0, 0) _ bl1 Tryz.underlying361 rfl HINF.out ?_)
  refine (weight_any w2 arr f HC.out HF.out).mono ?_
  rintro e w3 ⟨rfl, hb3⟩
  have bl3 := bl1.step hb3
  have bel3 : Below w.heap.size w w3 := bel_step hb3 bel1.size bel1
  have c1 := bl3.cell 1
  rw [HC.out.2 1 (by omega)] at c1
  generalize f 1 = y at *
  generalize wnF f 16 = wn at *
  generalize wsF f 16 = ws at *
  clear C hb1 bl1 bel1
  cases hgood : goodB ls
  · rw [hgood] at HCH
    go_wp2_with fail
    go_ret
    refine ⟨ret_int ?_, bel3⟩
    rw [HCH.out]
    simp
  · rw [hgood] at HCH
    go_wp2_with fail
    all_goals
      go_ret
      refine ⟨ret_int ?_, bel3⟩
      rw [HCH.out]
      go_light
      simp only [true_and]
      first | (rw [if_pos (by omega)]; done) | (rw [if_neg (by omega)]; done) | skip
    all_goals
      simp only [bne_iff_ne, ne_eq, bne_eq_false_iff_eq] at *
      first | (rw [if_pos (by omega)]; done) | (rw [if_neg (by omega)]; done)
end Go.Proofs.YtcafklmbehoggaaGreatDoor.Canon
namespace Go.Proofs.YtcafklmbehoggaaGreatDoor.Huff
def bit (bs : List Bool) (i : Nat) : Nat := if bs.getD i false then 1 else 0
def byteAt (bs : List Bool) (k : Nat) : Nat :=
  bit bs (8 * k) * 128 + bit bs (8 * k + 1) * 64 + bit bs (8 * k + 2) * 32 + bit bs (8 * k + 3) * 16 + bit bs (8 * k + 4) * 8 + bit bs (8 * k + 5) * 4 + bit bs (8 * k + 6) * 2 + bit bs (8 * k + 7)
def bytesOf (bs : List Bool) : List Nat := (List.range ((bs.length + 7) / 8)).map (byteAt bs)
theorem bytesOf_length (bs : List Bool) : (bytesOf bs).length = (bs.length + 7) / 8 := by simp [bytesOf]
theorem bit_le (bs : List Bool) (i : Nat) : bit bs i ≤ 1 := by unfold bit; split <;> omega
theorem byteAt_le (bs : List Bool) (k : Nat) : byteAt bs k ≤ 255 := by
  unfold byteAt
  have h0 := bit_le bs (8 * k)
  have h1 := bit_le bs (8 * k + 1)
  have h2 := bit_le bs (8 * k + 2)
  have h3 := bit_le bs (8 * k + 3)
  have h4 := bit_le bs (8 * k + 4)
  have h5 := bit_le bs (8 * k + 5)
  have h6 := bit_le bs (8 * k + 6)
  have h7 := bit_le bs (8 * k + 7)
  omega
theorem bit_out {bs : List Bool} {i : Nat} (h : bs.length ≤ i) : bit bs i = 0 := by
  unfold bit
  simp [List.getD_eq_getElem?_getD, List.getElem?_eq_none h]
theorem bit_snoc_lt {bs : List Bool} {b : Bool} {i : Nat} (h : i ≠ bs.length) : bit (bs ++ [b]) i = bit bs i := by
  unfold bit
  by_cases hlt : i < bs.length
  · simp [List.getD_eq_getElem?_getD, List.getElem?_append_left hlt]
  · simp [List.getD_eq_getElem?_getD, List.getElem?_eq_none (show (bs ++ [b]).length ≤ i by simp; omega), List.getElem?_eq_none (show bs.length ≤ i by omega)]
theorem bit_snoc_eq (bs : List Bool) (b : Bool) : bit (bs ++ [b]) bs.length = if b then 1 else 0 := by
  unfold bit
  simp [List.getD_eq_getElem?_getD]
theorem byteAt_other {bs : List Bool} {b : Bool} {k : Nat} (h : k ≠ bs.length / 8) : byteAt (bs ++ [b]) k = byteAt bs k := by
  unfold byteAt
  rw [bit_snoc_lt (by omega), bit_snoc_lt (by omega), bit_snoc_lt (by omega), bit_snoc_lt (by omega), bit_snoc_lt (by omega), bit_snoc_lt (by omega), bit_snoc_lt (by omega), bit_snoc_lt (by omega)]
theorem byteAt_zero {bs : List Bool} {k : Nat} (h : bs.length ≤ 8 * k) : byteAt bs k = 0 := by
  unfold byteAt
  rw [bit_out (by omega), bit_out (by omega), bit_out (by omega), bit_out (by omega), bit_out (by omega), bit_out (by omega), bit_out (by omega), bit_out (by omega)]
theorem byteAt_low (bs : List Bool) : 2 ^ (8 - bs.length % 8) ∣ byteAt bs (bs.length / 8) := by
  obtain ⟨q, r, hr, hl⟩ : ∃ q r, r < 8 ∧ bs.length = 8 * q + r := ⟨bs.length / 8, bs.length % 8, by omega, by omega⟩
  have e1 : bs.length / 8 = q := by omega
  have e2 : bs.length % 8 = r := by omega
  rw [e1, e2]
  have ho : ∀ i, r ≤ i → bit bs (8 * q + i) = 0 := fun i hi => bit_out (by omega)
  unfold byteAt
  have h0 := ho 0
  have : r = 0 ∨ r = 1 ∨ r = 2 ∨ r = 3 ∨ r = 4 ∨ r = 5 ∨ r = 6 ∨ r = 7 := by omega
  rcases this with rfl | rfl | rfl | rfl | rfl | rfl | rfl | rfl <;>
    first
    | (simp only [ho 1 (by omega), ho 2 (by omega), ho 3 (by omega), ho 4 (by omega), ho 5 (by omega), ho 6 (by omega), ho 7 (by omega)]; have := h0 (by omega); simp at this; simp [this]; done)
    | (rw [ho 7 (by omega)]; (try rw [ho 6 (by omega)]); (try rw [ho 5 (by omega)]); (try rw [ho 4 (by omega)]); (try rw [ho 3 (by omega)]); (try rw [ho 2 (by omega)]); (try rw [ho 1 (by omega)]); omega)
theorem byteAt_snoc (bs : List Bool) (b : Bool) : byteAt (bs ++ [b]) (bs.length / 8) = byteAt bs (bs.length / 8) + (if b then 1 else 0) * 2 ^ (7 - bs.length % 8) := by
  obtain ⟨q, r, hr, hl⟩ : ∃ q r, r < 8 ∧ bs.length = 8 * q + r := ⟨bs.length / 8, bs.length % 8, by omega, by omega⟩
  have e1 : bs.length / 8 = q := by omega
  have e2 : bs.length % 8 = r := by omega
  rw [e1, e2]
  have hn : ∀ i, i ≠ r → bit (bs ++ [b]) (8 * q + i) = bit bs (8 * q + i) := fun i hi => bit_snoc_lt (by omega)
  have he : bit (bs ++ [b]) (8 * q + r) = if b then 1 else 0 := by rw [← hl]; exact bit_snoc_eq bs b
  have hz : bit bs (8 * q + r) = 0 := bit_out (by omega)
  have h0 := hn 0
  simp only [Nat.add_zero] at h0
  unfold byteAt
  generalize (if b then 1 else 0) = x at he ⊢
  have : r = 0 ∨ r = 1 ∨ r = 2 ∨ r = 3 ∨ r = 4 ∨ r = 5 ∨ r = 6 ∨ r = 7 := by omega
  rcases this with rfl | rfl | rfl | rfl | rfl | rfl | rfl | rfl <;> (try simp only [Nat.add_zero] at he hz) <;> simp only [he, hz] <;>
    (try rw [h0 (by omega)]) <;> (try rw [hn 1 (by omega)]) <;> (try rw [hn 2 (by omega)]) <;> (try rw [hn 3 (by omega)]) <;> (try rw [hn 4 (by omega)]) <;> (try rw [hn 5 (by omega)]) <;> (try rw [hn 6 (by omega)]) <;> (try rw [hn 7 (by omega)]) <;> omega
theorem or_low {x y s : Nat} (hx : 2 ^ (s + 1) ∣ x) (hy : y ≤ 1) : x ||| y * 2 ^ s = x + y * 2 ^ s := by
  obtain ⟨q, rfl⟩ := hx
  have h1 : y * 2 ^ s < 2 ^ (s + 1) := by
    rw [Nat.pow_succ]
    have h2 : 0 < 2 ^ s := Nat.two_pow_pos s
    have h3 : y * 2 ^ s ≤ 1 * 2 ^ s := Nat.mul_le_mul_right _ hy
    omega
  exact (Nat.two_pow_add_eq_or_of_lt h1 q).symm
theorem byteAt_or (bs : List Bool) (b : Bool) : byteAt bs (bs.length / 8) ||| (if b then 1 else 0) * 2 ^ (7 - bs.length % 8) = byteAt (bs ++ [b]) (bs.length / 8) := by
  rw [byteAt_snoc]
  refine or_low ?_ (by split <;> omega)
  rw [show 7 - bs.length % 8 + 1 = 8 - bs.length % 8 by omega]
  exact byteAt_low bs
def roomOf (bs : List Bool) : List Nat := if bs.length % 8 = 0 then bytesOf bs ++ [0] else bytesOf bs
theorem roomOf_eq (bs : List Bool) : roomOf bs = (List.range (bs.length / 8 + 1)).map (byteAt bs) := by
  unfold roomOf
  split
  · rename_i h
    rw [List.range_succ, List.map_append, bytesOf, show (bs.length + 7) / 8 = bs.length / 8 by omega]
    simp only [List.map_cons, List.map_nil]
    rw [byteAt_zero (k := bs.length / 8) (by omega)]
  · rw [bytesOf, show (bs.length + 7) / 8 = bs.length / 8 + 1 by omega]
theorem bytesOf_snoc (bs : List Bool) (b : Bool) : bytesOf (bs ++ [b]) = (roomOf bs).set (bs.length / 8) (byteAt (bs ++ [b]) (bs.length / 8)) := by
  rw [roomOf_eq, bytesOf, List.length_append, List.length_singleton, show (bs.length + 1 + 7) / 8 = bs.length / 8 + 1 by omega]
  apply List.ext_getElem
  · simp
  · intro i h1 h2
    rw [List.getElem_set]
    simp only [List.getElem_map, List.getElem_range]
    split
    · rename_i e; rw [e]
    · rename_i e; exact byteAt_other (fun e2 => e e2.symm)
end Go.Proofs.YtcafklmbehoggaaGreatDoor.Huff
namespace Go.Proofs.YtcafklmbehoggaaGreatDoor.Huff
open Go.Proofs.YtcafklmbehoggaaGreatDoor.Canon
def msb (x n k : Nat) : List Bool := (List.range k).map fun j => decide (x / 2 ^ (n - 1 - j) % 2 = 1)
theorem msb_length (x n k : Nat) : (msb x n k).length = k := by simp [msb]
theorem msb_zero (x n : Nat) : msb x n 0 = [] := rfl
theorem msb_succ (x n k : Nat) : msb x n (k + 1) = msb x n k ++ [decide (x / 2 ^ (n - 1 - k) % 2 = 1)] := by
  simp [msb, List.range_succ]
def word (ls : List Nat) (s : Nat) : List Bool := msb (code ls s) (ls.getD s 0) (ls.getD s 0)
theorem word_length (ls : List Nat) (s : Nat) : (word ls s).length = ls.getD s 0 := msb_length _ _ _
theorem fst_wsum (ls : List Nat) : ∀ l, l ≤ 15 → (fst ls l + cn ls l) * 2 ^ (15 - l) = wsum ls (l + 1)
  | 0, _ => by simp [fst, cn, wsum]
  | l + 1, h => by
    have h1 := fst_wsum ls l (by omega)
    have e : 15 - l = (15 - (l + 1)) + 1 := by omega
    rw [wsum, ← h1, fst, e, Nat.pow_succ, Nat.add_mul]
    congr 1
    rw [Nat.mul_comm 2, Nat.mul_assoc, Nat.mul_comm 2]
theorem fst_wsum' (ls : List Nat) (l : Nat) (h : l ≤ 15) : fst ls l * 2 ^ (15 - l) = wsum ls l := by
  have h1 := fst_wsum ls l h
  rw [wsum, Nat.add_mul] at h1
  omega
theorem wsum_mono (ls : List Nat) {a : Nat} : ∀ {b : Nat}, a ≤ b → wsum ls a ≤ wsum ls b
  | 0, h => by
    obtain rfl : a = 0 := by omega
    exact Nat.le_refl _
  | b + 1, h => by
    by_cases e : a = b + 1
    · subst e; exact Nat.le_refl _
    · have := wsum_mono ls (a := a) (b := b) (by omega)
      rw [wsum]
      omega
theorem ok_parts {ls : List Nat} (h : okB ls = true) : ls.length ≤ 300 ∧ (∀ x ∈ ls, x ≤ 15) ∧ wsum ls 16 ≤ 32768 := by
  unfold okB at h
  simp only [Bool.and_eq_true, Bool.or_eq_true, decide_eq_true_eq, List.all_eq_true] at h
  obtain ⟨⟨h1, h2⟩, h3⟩ := h
  refine ⟨h1, h2, ?_⟩
  have hk := wsum_kraft ls h2
  have hu := wnum_used ls h2
  rcases h3 with (h3 | ⟨h3, h4⟩) | h3
  · rw [h3] at hu
    simp only [wnum] at hu
    simp only [wsum]
    have e0 : cn ls 0 = 0 := by simp [cn]
    have e : ∀ l, l < 16 → cn ls l = 0 := by
      intro l hl
      have : l = 0 ∨ l = 1 ∨ l = 2 ∨ l = 3 ∨ l = 4 ∨ l = 5 ∨ l = 6 ∨ l = 7 ∨ l = 8 ∨ l = 9 ∨ l = 10 ∨ l = 11 ∨ l = 12 ∨ l = 13 ∨ l = 14 ∨ l = 15 := by omega
      rcases this with rfl | rfl | rfl | rfl | rfl | rfl | rfl | rfl | rfl | rfl | rfl | rfl | rfl | rfl | rfl | rfl <;> omega
    simp [e]
  · have e1 : cn ls 1 = 1 := by unfold cn; rw [if_neg (by omega), h4]
    rw [h3] at hu
    simp only [wnum] at hu
    simp only [wsum]
    have e : ∀ l, l < 16 → l ≠ 1 → cn ls l = 0 := by
      intro l hl hl1
      have : l = 0 ∨ l = 1 ∨ l = 2 ∨ l = 3 ∨ l = 4 ∨ l = 5 ∨ l = 6 ∨ l = 7 ∨ l = 8 ∨ l = 9 ∨ l = 10 ∨ l = 11 ∨ l = 12 ∨ l = 13 ∨ l = 14 ∨ l = 15 := by omega
      rcases this with rfl | rfl | rfl | rfl | rfl | rfl | rfl | rfl | rfl | rfl | rfl | rfl | rfl | rfl | rfl | rfl <;> omega
    simp [e, e1]
  · omega
theorem cnt_take_lt {ls : List Nat} {s x : Nat} (hx : ls[s]? = some x) : cnt (ls.take s) x + 1 ≤ cnt ls x := by
  have h1 : cnt (ls.take (s + 1)) x = cnt (ls.take s) x + 1 := by rw [take_snoc hx, cnt_snoc, if_pos rfl]
  have h2 : cnt (ls.take (s + 1)) x ≤ cnt ls x := by
    unfold cnt
    conv => rhs; rw [← List.take_append_drop (s + 1) ls, List.countP_append]
    omega
  omega
theorem code_of {ls : List Nat} {s x : Nat} (hx : ls[s]? = some x) (h0 : x ≠ 0) : code ls s = fst ls x + cnt (ls.take s) x := by
  unfold code
  simp [List.getD_eq_getElem?_getD, hx, h0]
theorem code_in {ls : List Nat} {s x : Nat} (hx : ls[s]? = some x) (h0 : x ≠ 0) (h15 : x ≤ 15) :
    wsum ls x ≤ code ls s * 2 ^ (15 - x) ∧ (code ls s + 1) * 2 ^ (15 - x) ≤ wsum ls (x + 1) := by
  have h1 := code_of hx h0
  have h2 := cnt_take_lt hx
  constructor
  · rw [← fst_wsum' ls x h15]
    exact Nat.mul_le_mul_right _ (by omega)
  · rw [← fst_wsum ls x h15]
    refine Nat.mul_le_mul_right _ ?_
    unfold cn
    rw [if_neg h0]
    omega
theorem code_lt {ls : List Nat} (hok : okB ls = true) {s x : Nat} (hx : ls[s]? = some x) (h0 : x ≠ 0) : code ls s < 2 ^ x := by
  obtain ⟨_, h2, h3⟩ := ok_parts hok
  have h15 := h2 x (List.mem_of_getElem? hx)
  have h4 := (code_in hx h0 h15).2
  have h5 := wsum_mono ls (show x + 1 ≤ 16 by omega)
  have h6 : (code ls s + 1) * 2 ^ (15 - x) ≤ 2 ^ x * 2 ^ (15 - x) := by
    rw [← Nat.pow_add, show x + (15 - x) = 15 by omega]
    omega
  exact Nat.le_of_mul_le_mul_right h6 (Nat.two_pow_pos _)
theorem one_bit (y : Nat) : ((if decide (y % 2 = 1) = true then 1 else 0 : Nat) : Int) = ((y % 2 : Nat) : Int) := by
  rcases Nat.mod_two_eq_zero_or_one y with h | h <;> simp [h]
end Go.Proofs.YtcafklmbehoggaaGreatDoor.Huff
namespace Go.Proofs.YtcafklmbehoggaaGreatDoor.Huff
open Go.Proofs.YtcafklmbehoggaaGreatDoor.Canon
def symsOf (ls : List Nat) (l : Nat) : List Nat := (List.range ls.length).filter fun s => decide (ls.getD s 0 = l)
theorem symsOf_snoc (ls : List Nat) (x l : Nat) : symsOf (ls ++ [x]) l = symsOf ls l ++ if x = l then [ls.length] else [] := by
  unfold symsOf
  rw [List.length_append, List.length_singleton, List.range_succ, List.filter_append]
  congr 1
  · apply List.filter_congr
    intro s hs
    have hs := List.mem_range.1 hs
    simp [List.getD_eq_getElem?_getD, List.getElem?_append_left hs]
  · by_cases h : x = l <;> simp [List.getD_eq_getElem?_getD, h]
theorem snoc_ind {α : Type} {p : List α → Prop} (h0 : p []) (h1 : ∀ l x, p l → p (l ++ [x])) : ∀ l, p l := by
  intro l
  have : ∀ r : List α, p r.reverse := by
    intro r
    induction r with
    | nil => exact h0
    | cons x r ih => rw [List.reverse_cons]; exact h1 _ _ ih
  have h := this l.reverse
  rwa [List.reverse_reverse] at h
theorem symsOf_length (l : Nat) : ∀ ls : List Nat, (symsOf ls l).length = cnt ls l := by
  apply snoc_ind
  · rfl
  · intro ls x ih
    rw [symsOf_snoc, cnt_snoc, List.length_append, ih]
    split <;> rfl
end Go.Proofs.YtcafklmbehoggaaGreatDoor.Huff
namespace Go.Proofs.YtcafklmbehoggaaGreatDoor.Recs
open Go.RowKit Go.Proofs.YtcafklmbehoggaaGreatDoor.Mem
structure Rec where
  time : Int
  level : Int
  source : ByteArray
  text : ByteArray
def recd : Rec := ⟨0, 0, .empty, .empty⟩
def recF (l : List Rec) : Nat → Nat → Value := fun i j => match j with
  | 0 => .int .u64 (l.getD i recd).time
  | 1 => .int .u8 (l.getD i recd).level
  | 2 => .string (l.getD i recd).source
  | _ => .string (l.getD i recd).text
def recEq (a b : Rec) : Bool := a.time == b.time && (a.level == b.level && (a.source.toList == b.source.toList && a.text.toList == b.text.toList))
theorem bytes_ext {a b : ByteArray} (h : a.toList = b.toList) : a = b := by
  have h' : a.data.toList = b.data.toList := by rw [← ByteArray.toList_eq, ← ByteArray.toList_eq]; exact h
  cases a; cases b
  simp at h'
  rw [h']
theorem recEq_iff (a b : Rec) : recEq a b = true ↔ a = b := by
  constructor
  · intro h
    simp only [recEq, Bool.and_eq_true, beq_iff_eq] at h
    obtain ⟨h1, h2, h3, h4⟩ := h
    cases a; cases b
    simp only at h1 h2 h3 h4
    rw [h1, h2, bytes_ext h3, bytes_ext h4]
  · intro h
    subst h
    simp [recEq]
instance : DecidableEq Rec := fun a b => if h : recEq a b = true then .isTrue ((recEq_iff a b).1 h) else .isFalse fun e => h ((recEq_iff a b).2 e)
def weigh (r : Rec) : Int := 16 + r.source.size + r.text.size
def weight (l : List Rec) : Int := (l.map weigh).foldl (· + ·) 0
theorem foldl_add (l : List Int) : ∀ a : Int, l.foldl (· + ·) a = a + l.foldl (· + ·) 0 := by
  induction l with
  | nil => intro a; simp
  | cons x l ih => intro a; simp only [List.foldl_cons]; rw [ih (a + x), ih (0 + x)]; omega
theorem weight_snoc (l : List Rec) (r : Rec) : weight (l ++ [r]) = weight l + weigh r := by
  simp [weight]
theorem weight_nil : weight [] = 0 := rfl
end Go.Proofs.YtcafklmbehoggaaGreatDoor.Recs
namespace Go.Proofs.YtcafklmbehoggaaGreatDoor.Recs
open Go.RowKit Go.Proofs.YtcafklmbehoggaaGreatDoor.Mem
theorem Row.rec {w : World} {B n : Nat} {A : Option Addr} {l : List Rec} (h : Row w B A n 4 (recF l)) (hn : l.length = n) {k : Nat} (hk : k < n) :
    ∃ b off r, A = some ⟨b, off, none⟩ ∧ b < B ∧ l[k]? = some r ∧ w.cell? ⟨b, off + k * 4, none⟩ = some (.int .u64 r.time) ∧ w.cell? ⟨b, off + k * 4 + 1, none⟩ = some (.int .u8 r.level) ∧
      w.cell? ⟨b, off + k * 4 + 2, none⟩ = some (.string r.source) ∧ w.cell? ⟨b, off + k * 4 + 3, none⟩ = some (.string r.text) := by
  obtain ⟨b, off, rfl, hb, hc⟩ := h (by omega)
  have hl : k < l.length := by omega
  refine ⟨b, off, l[k], rfl, hb, List.getElem?_eq_getElem hl, ?_⟩
  have c0 := hc k 0 hk (by omega)
  have c1 := hc k 1 hk (by omega)
  have c2 := hc k 2 hk (by omega)
  have c3 := hc k 3 hk (by omega)
  simp only [recF, List.getD_eq_getElem?_getD, List.getElem?_eq_getElem hl, Option.getD_some, Nat.add_zero, ← Nat.add_assoc] at c0 c1 c2 c3
  exact ⟨c0, c1, c2, c3⟩
end Go.Proofs.YtcafklmbehoggaaGreatDoor.Recs
namespace Go.Proofs.YtcafklmbehoggaaGreatDoor.Toks
open Go.RowKit
def lg (v : Int) : Int := ((Nat.log2 v.toNat : Nat) : Int)
def pw (b : Int) : Int := ((2 ^ b.toNat : Nat) : Int)
theorem lg_nonneg (v : Int) : 0 ≤ lg v := by unfold lg; omega
theorem pw_pos (b : Int) : 1 ≤ pw b := by
  unfold pw
  have : 0 < 2 ^ b.toNat := Nat.two_pow_pos _
  omega
theorem pw_lg_le (v : Int) (h : 1 ≤ v) : pw (lg v) ≤ v := by
  unfold pw lg
  have := Nat.log2_self_le (n := v.toNat) (by omega)
  rw [Int.toNat_natCast]
  omega
theorem lt_pw_lg (v : Int) (h : 1 ≤ v) : v < 2 * pw (lg v) := by
  unfold pw lg
  have := Nat.lt_log2_self (n := v.toNat)
  rw [Int.toNat_natCast]
  rw [Nat.pow_succ] at this
  omega
theorem pw_mono (a b : Int) (h : a ≤ b) : pw a ≤ pw b := by
  unfold pw
  have := Nat.pow_le_pow_right (n := 2) (by omega) (show a.toNat ≤ b.toNat by omega)
  omega
theorem lg_lt (v b : Int) (_hb : 0 ≤ b) (h1 : 1 ≤ v) (h2 : v < pw b) : lg v < b := by
  have h3 := pw_lg_le v h1
  rcases Int.lt_or_le (lg v) b with h | h
  · exact h
  · have := pw_mono b (lg v) h
    omega
def mayB (lit len dist : Int) : Bool :=
  if len = 0 then decide (dist = 0) else decide (lit = 0 ∧ 3 ≤ len ∧ len ≤ 257 ∧ 1 ≤ dist ∧ dist ≤ 4095)
structure Pc where
  sym : Int
  len : Int
  dist : Int
  far : Int
structure Tk where
  lit : Int
  len : Int
  dist : Int
def Pc.val (p : Pc) : Value := .agg #[.int .i64 p.sym, .int .i64 p.len, .int .i64 p.dist, .int .i64 p.far]
def Tk.val (t : Tk) : Value := .agg #[.int .u8 t.lit, .int .i64 t.len, .int .i64 t.dist]
def splitP (t : Tk) : Pc :=
  if mayB t.lit t.len t.dist = true then
    if t.len = 0 then ⟨t.lit, 0, 0, 0⟩ else ⟨257 + lg (t.len - 2), t.len - 2 - pw (lg (t.len - 2)), lg t.dist, t.dist - pw (lg t.dist)⟩
  else ⟨0, 0, 0, 0⟩
def splitE (t : Tk) : Int := if mayB t.lit t.len t.dist = true then 0 else 7
theorem pw_8 : pw 8 = 256 := by decide
theorem pw_12 : pw 12 = 4096 := by decide
end Go.Proofs.YtcafklmbehoggaaGreatDoor.Toks
namespace Go.Proofs.YtcafklmbehoggaaGreatDoor.Toks
def bump (l : List Int) (i : Nat) : List Int := l.set i (l.getD i 0 + 1)
def cntStep (st : List Int × List Int) (t : Tk) : List Int × List Int :=
  (bump st.1 (splitP t).sym.toNat, if t.len = 0 then st.2 else bump st.2 (splitP t).dist.toNat)
def cnts (ts : List Tk) : List Int × List Int := ts.foldl cntStep (List.replicate 265 0, List.replicate 12 0)
def symsOf (ts : List Tk) : List Int := bump (cnts ts).1 256
def farsOf (ts : List Tk) : List Int := (cnts ts).2
def allOk (ts : List Tk) : Bool := ts.all fun t => mayB t.lit t.len t.dist
theorem bump_length (l : List Int) (i : Nat) : (bump l i).length = l.length := by simp [bump]
theorem cntStep_length (st : List Int × List Int) (t : Tk) : (cntStep st t).1.length = st.1.length ∧ (cntStep st t).2.length = st.2.length := by
  unfold cntStep
  refine ⟨bump_length _ _, ?_⟩
  simp only
  split
  · rfl
  · exact bump_length _ _
theorem foldl_cnt_length (ts : List Tk) : ∀ st : List Int × List Int, (ts.foldl cntStep st).1.length = st.1.length ∧ (ts.foldl cntStep st).2.length = st.2.length := by
  induction ts with
  | nil => intro st; exact ⟨rfl, rfl⟩
  | cons t ts ih =>
    intro st
    have h := ih (cntStep st t)
    have h2 := cntStep_length st t
    exact ⟨h.1.trans h2.1, h.2.trans h2.2⟩
theorem cnts_length (ts : List Tk) : (cnts ts).1.length = 265 ∧ (cnts ts).2.length = 12 := by
  have h := foldl_cnt_length ts (List.replicate 265 0, List.replicate 12 0)
  exact ⟨h.1.trans List.length_replicate, h.2.trans List.length_replicate⟩
theorem cnts_snoc (ts : List Tk) (k : Nat) (h : k < ts.length) : cnts (ts.take (k + 1)) = cntStep (cnts (ts.take k)) ts[k] := by
  unfold cnts
  rw [List.take_succ_eq_append_getElem h, List.foldl_append]
  rfl
def Within (b : Int) (l : List Int) : Prop := ∀ i, 0 ≤ l.getD i 0 ∧ l.getD i 0 ≤ b
theorem Within.mono {b c : Int} {l : List Int} (h : Within b l) (hbc : b ≤ c) : Within c l := fun i => by have := h i; omega
theorem Within.bump {b : Int} {l : List Int} (h : Within b l) (j : Nat) : Within (b + 1) (bump l j) := by
  intro i
  unfold Toks.bump
  simp only [List.getD_eq_getElem?_getD, List.getElem?_set]
  have hi := h i
  have hj := h j
  simp only [List.getD_eq_getElem?_getD] at hi hj
  split
  · split
    · simp; omega
    · simp; omega
  · omega
theorem cnts_within (ts : List Tk) : Within ts.length (cnts ts).1 ∧ Within ts.length (cnts ts).2 := by
  have key : ∀ (ts : List Tk) (st : List Int × List Int) (b : Int), Within b st.1 → Within b st.2 → Within (b + ts.length) (ts.foldl cntStep st).1 ∧ Within (b + ts.length) (ts.foldl cntStep st).2 := by
    intro ts
    induction ts with
    | nil => intro st b h1 h2; simpa using ⟨h1, h2⟩
    | cons t ts ih =>
      intro st b h1 h2
      have h := ih (cntStep st t) (b + 1) (h1.bump _) (by
        unfold cntStep
        simp only
        split
        · exact h2.mono (by omega)
        · exact h2.bump _)
      simp only [List.length_cons, List.foldl_cons]
      exact ⟨h.1.mono (by omega), h.2.mono (by omega)⟩
  have z : ∀ n : Nat, Within 0 (List.replicate n 0) := by
    intro n i
    simp only [List.getD_eq_getElem?_getD, List.getElem?_replicate]
    split <;> simp
  have h := key ts (List.replicate 265 0, List.replicate 12 0) 0 (z _) (z _)
  rw [Int.zero_add] at h
  exact h
theorem sym_nat (t : Tk) (h0 : 0 ≤ t.lit) (h1 : t.lit ≤ 255) (hm : mayB t.lit t.len t.dist = true) :
    ∃ S D : Nat, ∃ L F : Int, splitP t = ⟨S, L, D, F⟩ ∧ S < 265 ∧ D < 12 ∧ (t.len = 0 → S < 256) ∧ (t.len ≠ 0 → 257 ≤ S ∧ 3 ≤ t.len) ∧ splitE t = 0 := by
  by_cases hl : t.len = 0
  · refine ⟨t.lit.toNat, 0, 0, 0, ?_, by omega, by omega, fun _ => by omega, fun h => absurd hl h, ?_⟩
    · unfold splitP; rw [if_pos hm, if_pos hl, Int.toNat_of_nonneg h0]; rfl
    · unfold splitE; rw [if_pos hm]
  · have hb : t.lit = 0 ∧ 3 ≤ t.len ∧ t.len ≤ 257 ∧ 1 ≤ t.dist ∧ t.dist ≤ 4095 := by
      unfold mayB at hm; rw [if_neg hl] at hm; exact of_decide_eq_true hm
    have a1 := lg_nonneg (t.len - 2)
    have a2 := lg_lt (t.len - 2) 8 (by omega) (by omega) (by rw [pw_8]; omega)
    have b1 := lg_nonneg t.dist
    have b2 := lg_lt t.dist 12 (by omega) (by omega) (by rw [pw_12]; omega)
    refine ⟨(257 + lg (t.len - 2)).toNat, (lg t.dist).toNat, t.len - 2 - pw (lg (t.len - 2)), t.dist - pw (lg t.dist), ?_, by omega, by omega, fun h => absurd h hl, fun _ => ⟨by omega, hb.2.1⟩, ?_⟩
    · unfold splitP
      rw [if_pos hm, if_neg hl, Int.toNat_of_nonneg (by omega), Int.toNat_of_nonneg b1]
    · unfold splitE; rw [if_pos hm]
end Go.Proofs.YtcafklmbehoggaaGreatDoor.Toks
namespace Go.Proofs.YtcafklmbehoggaaGreatDoor.Lz
open Go.Proofs.YtcafklmbehoggaaGreatDoor.Toks (Tk mayB)
def alikeF (l : List Nat) (p at_ : Nat) : Nat → Nat → Nat
  | 0, n => n
  | f + 1, n => if n < 257 ∧ at_ + n < l.length ∧ l.getD (p + n) 0 = l.getD (at_ + n) 0 then alikeF l p at_ f (n + 1) else n
def alike (l : List Nat) (p at_ : Nat) : Nat := alikeF l p at_ 257 0
structure IsAlike (l : List Nat) (p at_ k : Nat) : Prop where
  le : k ≤ 257
  fits : k = 0 ∨ at_ + k ≤ l.length
  same : ∀ j, j < k → l.getD (p + j) 0 = l.getD (at_ + j) 0
  stop : ¬ (k < 257 ∧ at_ + k < l.length ∧ l.getD (p + k) 0 = l.getD (at_ + k) 0)
theorem alikeF_is (l : List Nat) (p at_ : Nat) : ∀ (f n : Nat), n + f = 257 → (n = 0 ∨ at_ + n ≤ l.length) → (∀ j, j < n → l.getD (p + j) 0 = l.getD (at_ + j) 0) → IsAlike l p at_ (alikeF l p at_ f n)
  | 0, n, hf, h1, h2 => by
    rw [alikeF]
    exact ⟨by omega, h1, h2, by omega⟩
  | f + 1, n, hf, h1, h2 => by
    rw [alikeF]
    split
    · rename_i h
      refine alikeF_is l p at_ f (n + 1) (by omega) (.inr (by omega)) fun j hj => ?_
      by_cases e : j < n
      · exact h2 j e
      · obtain rfl : j = n := by omega
        exact h.2.2
    · rename_i h
      exact ⟨by omega, h1, h2, h⟩
theorem alike_is (l : List Nat) (p at_ : Nat) : IsAlike l p at_ (alike l p at_) := alikeF_is l p at_ 257 0 rfl (.inl rfl) fun j hj => absurd hj (by omega)
theorem IsAlike.unique {l : List Nat} {p at_ k k' : Nat} (h : IsAlike l p at_ k) (h' : IsAlike l p at_ k') : k = k' := by
  have key : ∀ {a b : Nat}, IsAlike l p at_ a → IsAlike l p at_ b → ¬ a < b := by
    intro a b ha hb hlt
    refine ha.stop ⟨?_, ?_, hb.same a hlt⟩
    · have := hb.le; omega
    · rcases hb.fits with h0 | h0 <;> omega
  have h1 := key h h'
  have h2 := key h' h
  omega
theorem alike_eq {l : List Nat} {p at_ k : Nat} (h : IsAlike l p at_ k) : alike l p at_ = k := (alike_is l p at_).unique h
theorem alike_le (l : List Nat) (p at_ : Nat) : alike l p at_ ≤ 257 := (alike_is l p at_).le
def stepB (l : List Nat) (at_ : Nat) (nd : Nat × Nat) (d : Nat) : Nat × Nat := if nd.1 < alike l (at_ - d) at_ then (alike l (at_ - d) at_, d) else nd
def bestN (l : List Nat) (at_ : Nat) : Nat → Nat × Nat
  | 0 => (0, 0)
  | d + 1 => stepB l at_ (bestN l at_ d) (d + 1)
def bestR (l : List Nat) (at_ : Nat) : Nat × Nat := bestN l at_ (min 4095 at_)
structure Good (l : List Nat) (at_ : Nat) (nd : Nat × Nat) (D : Nat) : Prop where
  n : nd.1 ≤ 257
  d1 : nd.1 ≠ 0 → 1 ≤ nd.2
  d2 : nd.2 ≤ D
  is : nd.1 ≠ 0 → nd.1 = alike l (at_ - nd.2) at_
theorem bestN_good (l : List Nat) (at_ : Nat) : ∀ D, Good l at_ (bestN l at_ D) D
  | 0 => ⟨by simp [bestN], by simp [bestN], by simp [bestN], by simp [bestN]⟩
  | D + 1 => by
    have h := bestN_good l at_ D
    rw [bestN, stepB]
    split
    · exact ⟨alike_le _ _ _, fun _ => by simp, by simp, fun _ => rfl⟩
    · exact ⟨h.n, h.d1, by have := h.d2; omega, h.is⟩
theorem bestR_good (l : List Nat) (at_ : Nat) : Good l at_ (bestR l at_) (min 4095 at_) := bestN_good l at_ _
theorem bestR_fits {l : List Nat} {at_ : Nat} (h : (bestR l at_).1 ≠ 0) : at_ + (bestR l at_).1 ≤ l.length := by
  have hg := (bestR_good l at_).is h
  rcases (alike_is l (at_ - (bestR l at_).2) at_).fits with h0 | h0 <;> omega
def findFrom (l : List Nat) (at_ : Nat) : List Tk :=
  if at_ < l.length then
    if 3 ≤ (bestR l at_).1 then ⟨0, ((bestR l at_).1 : Nat), ((bestR l at_).2 : Nat)⟩ :: findFrom l (at_ + (bestR l at_).1)
    else ⟨(l.getD at_ 0 : Nat), 0, 0⟩ :: findFrom l (at_ + 1)
  else []
termination_by l.length - at_
def find (l : List Nat) : List Tk := findFrom l 0
theorem findFrom_end {l : List Nat} {at_ : Nat} (h : ¬ at_ < l.length) : findFrom l at_ = [] := by rw [findFrom, if_neg h]
theorem findFrom_match {l : List Nat} {at_ : Nat} (h : at_ < l.length) (h3 : 3 ≤ (bestR l at_).1) : findFrom l at_ = ⟨0, ((bestR l at_).1 : Nat), ((bestR l at_).2 : Nat)⟩ :: findFrom l (at_ + (bestR l at_).1) := by
  rw [findFrom, if_pos h, if_pos h3]
theorem findFrom_lit {l : List Nat} {at_ : Nat} (h : at_ < l.length) (h3 : ¬ 3 ≤ (bestR l at_).1) : findFrom l at_ = ⟨(l.getD at_ 0 : Nat), 0, 0⟩ :: findFrom l (at_ + 1) := by
  rw [findFrom, if_pos h, if_neg h3]
theorem findFrom_ind {l : List Nat} {motive : Nat → Prop} (h1 : ∀ at_, ¬ at_ < l.length → motive at_) (h2 : ∀ at_, at_ < l.length → 3 ≤ (bestR l at_).1 → motive (at_ + (bestR l at_).1) → motive at_)
    (h3 : ∀ at_, at_ < l.length → ¬ 3 ≤ (bestR l at_).1 → motive (at_ + 1) → motive at_) : ∀ at_, motive at_ := by
  intro at_
  obtain ⟨m, hm⟩ : ∃ m, m = l.length - at_ := ⟨_, rfl⟩
  induction m using Nat.strongRecOn generalizing at_ with
  | ind m ih =>
    by_cases h : at_ < l.length
    · by_cases h' : 3 ≤ (bestR l at_).1
      · exact h2 at_ h h' (ih _ (by omega) _ rfl)
      · exact h3 at_ h h' (ih _ (by omega) _ rfl)
    · exact h1 at_ h
theorem find_ok {l : List Nat} (h8 : ∀ x ∈ l, x ≤ 255) : ∀ at_, (∀ t ∈ findFrom l at_, (0 ≤ t.lit ∧ t.lit ≤ 255) ∧ mayB t.lit t.len t.dist = true) ∧ (findFrom l at_).length ≤ l.length - at_ := by
  refine findFrom_ind (l := l) ?_ ?_ ?_
  · intro at_ h
    rw [findFrom_end h]
    simp
  · intro at_ h h3 ih
    rw [findFrom_match h h3]
    have hg := bestR_good l at_
    have hd1 := hg.d1 (by omega)
    have hd2 := hg.d2
    have hn := hg.n
    refine ⟨fun t ht => ?_, by rw [List.length_cons]; have := ih.2; have := bestR_fits (l := l) (at_ := at_) (by omega); omega⟩
    rcases List.mem_cons.1 ht with rfl | ht
    · refine ⟨⟨by simp, by simp⟩, ?_⟩
      unfold mayB
      generalize (bestR l at_).1 = n at *
      generalize (bestR l at_).2 = d at *
      rw [if_neg (by show ¬ (n : Int) = 0; omega)]
      exact decide_eq_true ⟨rfl, by show (3 : Int) ≤ (n : Int); omega, by show (n : Int) ≤ 257; omega, by show (1 : Int) ≤ (d : Int); omega, by show (d : Int) ≤ 4095; omega⟩
    · exact ih.1 t ht
  · intro at_ h h3 ih
    rw [findFrom_lit h h3]
    refine ⟨fun t ht => ?_, by rw [List.length_cons]; have := ih.2; omega⟩
    rcases List.mem_cons.1 ht with rfl | ht
    · have hx := h8 l[at_] (List.getElem_mem h)
      have e : l.getD at_ 0 = l[at_] := by rw [List.getD_eq_getElem?_getD, List.getElem?_eq_getElem h]; rfl
      refine ⟨⟨by simp, by simp only [e]; omega⟩, ?_⟩
      unfold mayB
      simp
    · exact ih.1 t ht
def key3 (l : List Nat) (p : Nat) : Nat × Nat × Nat := (l.getD p 0, l.getD (p + 1) 0, l.getD (p + 2) 0)
def norm (nd : Nat × Nat) : Nat × Nat := if 3 ≤ nd.1 then nd else (0, 0)
theorem alike_key {l : List Nat} {p at_ : Nat} (h : 3 ≤ alike l p at_) : key3 l p = key3 l at_ := by
  have hs := (alike_is l p at_).same
  unfold key3
  have h0 := hs 0 (by omega)
  have h1 := hs 1 (by omega)
  have h2 := hs 2 (by omega)
  simp only [Nat.add_zero] at h0
  rw [h0, h1, h2]
theorem alike_three {l : List Nat} {p at_ : Nat} (h : key3 l p = key3 l at_) (hf : at_ + 3 ≤ l.length) : 3 ≤ alike l p at_ := by
  have ha := alike_is l p at_
  unfold key3 at h
  simp only [Prod.mk.injEq] at h
  rcases Nat.lt_or_ge (alike l p at_) 3 with hlt | hge
  · exfalso
    refine ha.stop ⟨by omega, by omega, ?_⟩
    generalize alike l p at_ = k at hlt
    match k, hlt with
    | 0, _ => exact h.1
    | 1, _ => exact h.2.1
    | 2, _ => exact h.2.2
  · exact hge
end Go.Proofs.YtcafklmbehoggaaGreatDoor.Lz

/-
  Lengths of words, how many there are of each, their weight, the words: plain functions and their laws.
  The walks of package canon's count, weight and Check.
  The walks of package canon's weight and Check.
-/
import Derived.Test.YtidclmmnfienlaaGreatDoorMem
import Derived.Test.YtidclmmnfienlaaGreatDoorProg
import Derived.BigQuiet
import Derived.BigGuardPart
import Derived.Deep.QuietTactic
import Derived.Deep.Light
import Derived.Laws.Rows
import Derived.Deep.MidRow
import Derived.Deep.DeepCutAuto

namespace Go.Proofs.YtidclmmnfienlaaGreatDoor.Canon
open Go.RowKit Go.Proofs.YtidclmmnfienlaaGreatDoor.Mem

/-- How many words have length l; none has length 0. -/
def cnt (ls : List Nat) (l : Nat) : Nat := ls.countP (fun x => decide (x = l))
def cn (ls : List Nat) (l : Nat) : Nat := if l = 0 then 0 else cnt ls l
theorem cnt_nil (l : Nat) : cnt [] l = 0 := rfl
theorem cnt_snoc (ls : List Nat) (x l : Nat) : cnt (ls ++ [x]) l = cnt ls l + if x = l then 1 else 0 := by
  unfold cnt
  rw [List.countP_append]
  by_cases h : x = l <;> simp [h]
theorem cnt_le (ls : List Nat) (l : Nat) : cnt ls l ≤ ls.length := List.countP_le_length
theorem cn_le (ls : List Nat) (l : Nat) : cn ls l ≤ ls.length := by
  unfold cn; split
  · omega
  · exact cnt_le ls l
theorem take_snoc {α : Type} {l : List α} {k : Nat} {x : α} (h : l[k]? = some x) : l.take (k + 1) = l.take k ++ [x] := by
  rw [List.take_add_one, h]; rfl

/-- The weight, and how many words there are, of lengths below l. -/
def wsum (ls : List Nat) : Nat → Nat
  | 0 => 0
  | l + 1 => wsum ls l + cn ls l * 2 ^ (15 - l)
def wnum (ls : List Nat) : Nat → Nat
  | 0 => 0
  | l + 1 => wnum ls l + cn ls l
theorem wsum_le (ls : List Nat) : ∀ l, wsum ls l ≤ l * (ls.length * 32768)
  | 0 => by simp [wsum]
  | l + 1 => by
    have h1 := wsum_le ls l
    have h2 := cn_le ls l
    have h3 : 2 ^ (15 - l) ≤ 2 ^ 15 := Nat.pow_le_pow_right (by omega) (by omega)
    have h4 : cn ls l * 2 ^ (15 - l) ≤ ls.length * 32768 := Nat.mul_le_mul h2 h3
    rw [wsum, Nat.add_mul]
    omega
theorem wnum_le (ls : List Nat) : ∀ l, wnum ls l ≤ l * ls.length
  | 0 => by simp [wnum]
  | l + 1 => by
    have h1 := wnum_le ls l
    have h2 := cn_le ls l
    rw [wnum, Nat.add_mul]
    omega

/-- The same, word by word. -/
def kraft (ls : List Nat) : Nat := (ls.map fun x => if x = 0 then 0 else 2 ^ (15 - x)).sum
def used (ls : List Nat) : Nat := ls.countP (fun x => decide (x ≠ 0))
theorem cn_cons (x : Nat) (ls : List Nat) (l : Nat) : cn (x :: ls) l = cn ls l + if x ≠ 0 ∧ x = l then 1 else 0 := by
  unfold cn cnt
  by_cases hl : l = 0
  · subst hl
    simp
  · rw [if_neg hl, if_neg hl, List.countP_cons]
    by_cases hx : x = l
    · simp [hx, hl]
    · simp [hx]
theorem wsum_nil : ∀ l, wsum [] l = 0
  | 0 => rfl
  | l + 1 => by rw [wsum, wsum_nil l]; simp [cn, cnt_nil]
theorem wnum_nil : ∀ l, wnum [] l = 0
  | 0 => rfl
  | l + 1 => by rw [wnum, wnum_nil l]; simp [cn, cnt_nil]
theorem wsum_cons (x : Nat) (ls : List Nat) : ∀ l, wsum (x :: ls) l = wsum ls l + if x ≠ 0 ∧ x < l then 2 ^ (15 - x) else 0
  | 0 => by simp [wsum]
  | l + 1 => by
    rw [wsum, wsum_cons x ls l, wsum, cn_cons, Nat.add_mul]
    by_cases h0 : x = 0
    · simp [h0]
    · by_cases h1 : x = l
      · subst h1
        simp [h0]; omega
      · by_cases h2 : x < l
        · have : x < l + 1 := by omega
          simp [h0, h1, h2, this]; omega
        · have : ¬ x < l + 1 := by omega
          simp [h1, h2, this]
theorem wnum_cons (x : Nat) (ls : List Nat) : ∀ l, wnum (x :: ls) l = wnum ls l + if x ≠ 0 ∧ x < l then 1 else 0
  | 0 => by simp [wnum]
  | l + 1 => by
    rw [wnum, wnum_cons x ls l, wnum, cn_cons]
    by_cases h0 : x = 0
    · simp [h0]
    · by_cases h1 : x = l
      · subst h1
        simp [h0]; omega
      · by_cases h2 : x < l
        · have : x < l + 1 := by omega
          simp [h0, h1, h2, this]; omega
        · have : ¬ x < l + 1 := by omega
          simp [h1, h2, this]
theorem wsum_kraft : ∀ (ls : List Nat), (∀ x ∈ ls, x ≤ 15) → wsum ls 16 = kraft ls
  | [], _ => by rw [wsum_nil]; rfl
  | x :: ls, h => by
    have h1 := h x (by simp)
    rw [wsum_cons, wsum_kraft ls (fun y hy => h y (by simp [hy]))]
    unfold kraft
    rw [List.map_cons, List.sum_cons]
    by_cases h0 : x = 0
    · simp [h0]
    · have : x < 16 := by omega
      simp [h0, this]; omega
theorem wnum_used : ∀ (ls : List Nat), (∀ x ∈ ls, x ≤ 15) → wnum ls 16 = used ls
  | [], _ => by rw [wnum_nil]; rfl
  | x :: ls, h => by
    have h1 := h x (by simp)
    rw [wnum_cons, wnum_used ls (fun y hy => h y (by simp [hy]))]
    unfold used
    rw [List.countP_cons]
    by_cases h0 : x = 0
    · simp [h0]
    · have : x < 16 := by omega
      simp [h0, this]

/-- May these be the lengths of a code's words? -/
def okB (ls : List Nat) : Bool := decide (ls.length ≤ 300) && ls.all (fun x => decide (x ≤ 15)) && (decide (used ls = 0) || decide (used ls = 1 ∧ cnt ls 1 = 1) || decide (kraft ls = 32768))

/-- The number of the first word of each length. -/
def fst (ls : List Nat) : Nat → Nat
  | 0 => 0
  | l + 1 => 2 * (fst ls l + cn ls l)
/-- The word of symbol s. -/
def code (ls : List Nat) (s : Nat) : Nat := let x := ls.getD s 0; if x = 0 then 0 else fst ls x + cnt (ls.take s) x
def codes (ls : List Nat) : List Nat := (List.range ls.length).map (code ls)
theorem codes_length (ls : List Nat) : (codes ls).length = ls.length := by simp [codes]
theorem fst_le (ls : List Nat) : ∀ l, fst ls l + 2 * ls.length ≤ 2 ^ (l + 1) * ls.length
  | 0 => by simp [fst]
  | l + 1 => by
    have h1 := fst_le ls l
    have h2 := cn_le ls l
    have h3 : 2 ^ (l + 1 + 1) * ls.length = 2 * (2 ^ (l + 1) * ls.length) := by rw [Nat.pow_succ 2 (l + 1), Nat.mul_comm (2 ^ (l + 1)) 2, Nat.mul_assoc]
    rw [fst, h3]
    omega

/-- A slice's numbers, of kind k, as cells. -/
def numF (k : IntKind) (l : List Nat) : Nat → Nat → Value := fun i _ => .int k (l.getD i 0 : Nat)
/-- Sixteen cells of counts. -/
def Cnts (f : Nat → Nat) (n : Nat) (arr : Array Value) : Prop := arr.size = n ∧ ∀ l, l < n → arr[l]? = some (.int .i64 (f l))
theorem Cnts.set {f g : Nat → Nat} {n : Nat} {arr : Array Value} {x v : Nat} (h : Cnts f n arr) (hv : g x = v) (ho : ∀ l, l ≠ x → g l = f l) : Cnts g n (arr.setIfInBounds x (.int .i64 (v : Nat))) := by
  refine ⟨by rw [Array.size_setIfInBounds]; exact h.1, fun l hl => ?_⟩
  rw [Array.getElem?_setIfInBounds]
  by_cases e : x = l
  · subst e
    rw [if_pos rfl, if_pos (by have := h.1; omega), hv]
  · rw [if_neg e, h.2 l hl, ho l (Ne.symm e)]
end Go.Proofs.YtidclmmnfienlaaGreatDoor.Canon

namespace Go.Proofs.YtidclmmnfienlaaGreatDoor.Canon
open Go.RowKit Go.Proofs.YtidclmmnfienlaaGreatDoor.Mem

theorem set_same {cs : Array Value} {i : Nat} {v : Value} (h : cs[i]? = some v) : cs.setIfInBounds i v = cs := by
  apply Array.ext_getElem?
  intro j
  rw [Array.getElem?_setIfInBounds]
  split
  · rename_i e
    subst e
    obtain ⟨hi, _⟩ := Array.getElem?_eq_some_iff.1 h
    rw [if_pos hi, h]
  · rfl
theorem blk_setCells {g : Nat} {t : TypeId} {cs : Array Value} : ∀ (vs : List Value) (o : Nat) (w : World), Blk w g t cs → (∀ j v, vs[j]? = some v → cs[o + j]? = some v) → Blk (w.setCells g o vs) g t cs
  | [], _, _, h, _ => h
  | v :: vs, o, w, h, hc => by
    refine blk_setCells vs (o + 1) _ ?_ (fun j u hu => by rw [show o + 1 + j = o + (j + 1) by omega]; exact hc (j + 1) u hu)
    have := h.set o v
    rwa [set_same (by simpa using hc 0 v rfl)] at this
theorem bel_setCells {B g : Nat} {a : World} (hB : B ≤ g) : ∀ (vs : List Value) (o : Nat) (w : World), Below B a w → Below B a (w.setCells g o vs)
  | [], _, _, h => h
  | _ :: vs, o, _, h => bel_setCells hB vs (o + 1) _ (bel_set (p := ⟨g, o, none⟩) hB h)
theorem there_blk {w : World} {g : Nat} {t : TypeId} {cs : Array Value} (h : Blk w g t cs) : w.there g 0 cs.size := fun j hj => by
  rw [Nat.zero_add]
  exact ⟨by rw [h.cell, Array.getElem?_eq_getElem hj]; rfl, h.frozen j⟩

theorem Cnts.one {f : Nat → Nat} {n : Nat} {arr : Array Value} (h : Cnts f n arr) : arr.all (·.oneCell') = true := by
  rw [Array.all_eq_true]
  intro i hi
  have := h.2 i (by have := h.1; omega)
  rw [Array.getElem?_eq_getElem hi] at this
  injection this with this
  rw [this]
  rfl
theorem Cnts.zero : Cnts (fun _ => 0) 16 #[.int .i64 0, .int .i64 0, .int .i64 0, .int .i64 0, .int .i64 0, .int .i64 0, .int .i64 0, .int .i64 0, .int .i64 0, .int .i64 0, .int .i64 0, .int .i64 0, .int .i64 0, .int .i64 0, .int .i64 0, .int .i64 0] := by
  refine ⟨rfl, fun l hl => ?_⟩
  have : l = 0 ∨ l = 1 ∨ l = 2 ∨ l = 3 ∨ l = 4 ∨ l = 5 ∨ l = 6 ∨ l = 7 ∨ l = 8 ∨ l = 9 ∨ l = 10 ∨ l = 11 ∨ l = 12 ∨ l = 13 ∨ l = 14 ∨ l = 15 := by omega
  rcases this with rfl | rfl | rfl | rfl | rfl | rfl | rfl | rfl | rfl | rfl | rfl | rfl | rfl | rfl | rfl | rfl <;> rfl

theorem results_cell_tmp {P : Program} {fn : Func} {p q : Tmp} {ty : TypeId} (h : fn.results = #[.cell p ty, .tmp q]) (tmps : Array Value) (w : World) (g : Nat) (t : TypeId) (cs : Array Value) (d : TypeDesc) (u : Value)
    (hp : tmps.getD p undef = .pointer (some ⟨g, 0, none⟩)) (hq : tmps.getD q undef = u) (hg : Blk w g t cs)
    (hu : P.underlying ty = some d) (hd : (match d with | .struct _ | .array _ _ => true | _ => false) = true) (hi : (P.info? ty).map (·.size) = some cs.size) :
    (results fn tmps).run P w = .ok (.tuple #[.agg cs, u]) w := by
  have hp' : tmps[p]?.getD undef = .pointer (some ⟨g, 0, none⟩) := by simpa using hp
  have hq' : tmps[q]?.getD undef = u := by simpa using hq
  simp [results, h, hp', hq', asAddr, run_loadVar_row w g t ty cs (0, 0) d hg hu hd hi]

theorem info_counts : (Tryz.prog.info? 238).map (·.size) = some 16 := by kernel_rfl
def goodB (ls : List Nat) : Bool := decide (ls.length ≤ 300) && ls.all (fun x => decide (x ≤ 15))
def CountPost (ls : List Nat) (w : World) (e : Ending) (w' : World) : Prop :=
  ∃ (arr : Array Value) (f : Nat → Nat), e = .returned (.tuple #[.agg arr, .bool (goodB ls)]) ∧ Cnts f 16 arr ∧ (∀ l, f l ≤ 300) ∧ (goodB ls = true → f = cn ls) ∧ Below w.heap.size w w'

/-- One cell of a row of numbers. -/
theorem num_cell {w : World} {B n : Nat} {A : Option Addr} {k : IntKind} {ls : List Nat} (h : Row w B A n 1 (numF k ls)) (hn : ls.length = n) {i : Nat} (hi : i < n) :
    ∃ b off x, A = some ⟨b, off, none⟩ ∧ b < B ∧ ls[i]? = some x ∧ w.cell? ⟨b, off + i, none⟩ = some (.int k (x : Nat)) := by
  obtain ⟨b, off, e, hb, hc⟩ := h (by omega)
  have hl : i < ls.length := by omega
  have h1 := hc i 0 hi (by omega)
  simp only [numF, Nat.mul_one, Nat.add_zero, List.getD_eq_getElem?_getD, List.getElem?_eq_getElem hl, Option.getD_some] at h1
  exact ⟨b, off, ls[i], e, hb, List.getElem?_eq_getElem hl, h1⟩

set_option maxHeartbeats 1000000 in
set_option maxRecDepth 100000 in
theorem count_any (w : World) (A : Option Addr) (n c : Nat) (ls : List Nat) (hn : ls.length = n) (hN : n ≤ 9223372036854775807) (ha : Row w w.heap.size A n 1 (numF .u8 ls)) :
    Calls Tryz.prog 172 #[.slice A n c] w (CountPost ls w) := by
  have HN := Lib.hid hn
  clear hn
  by_cases hbig : n ≤ 300
  · have hd : decide (300 < n) = false := by simp; omega
    go_enter Tryz.func172, Tryz.ntmps172
    go_wp2_with fail
    go_loopw [12] (fun i wr => ∃ (k : Nat) (arr : Array Value), k ≤ n ∧ i = .int .i64 k ∧ Blk wr w.heap.size 238 arr ∧ Hid (Cnts (cnt (ls.take k)) 16 arr) ∧ Hid (∀ x ∈ ls.take k, x ≤ 15) ∧ Below w.heap.size w wr) (fun i _ => n - (intOf i).toNat)
    case atStart => exact ⟨0, _, by omega, rfl, Blk.made _ _ _, Cnts.zero, fun x hx => by simp at hx, bel_alloc0 (Below.refl _ _)⟩
    case round =>
      obtain ⟨k, arr, hk, rfl, blk, hcnt, hsm, rbel⟩ := hrel
      have hinf : (Tryz.prog.info? 238).map (·.size) = some arr.size := by rw [hcnt.out.1]; exact info_counts
      have HI := Lib.hid hinf
      clear hinf
      have hfree := blk.frozen 0
      by_cases hlt : k < n
      · obtain ⟨b, off, x, rfl, hbb, hx, c0⟩ := num_cell (ha.below rbel) HN.out hlt
        have htk := take_snoc hx
        have HX := Lib.hid hx
        have HTK := Lib.hid htk
        clear hx htk
        by_cases h15 : 15 < x
        · have hbad : goodB ls = false := by
            unfold goodB
            have : ls.all (fun x => decide (x ≤ 15)) = false := by
              rw [List.all_eq_false]
              exact ⟨x, List.mem_of_getElem? HX.out, by simpa using h15⟩
            rw [this, Bool.and_false]
          have HB := Lib.hid hbad
          clear hbad
          go_wp2_with (first
            | (refine wpList_load_row rfl 238 (.tmp 2) rfl w.heap.size (by rfl) _ arr (0, 0) _ blk Tryz.underlying238 rfl HI.out ?_)
            | (refine wpList_store_mid rfl 238 (.tmp 2) _ rfl w.heap.size 0 arr (by rfl) (by rfl) (there_blk blk) HI.out hcnt.out.one ?_))
          have blk2 := blk_setCells arr.toList 0 wr blk (fun j v hv => by rw [Nat.zero_add]; simpa using hv)
          refine bodyPost_ret (results_cell_tmp rfl _ _ w.heap.size _ arr _ (.bool false) rfl rfl blk2 Tryz.underlying238 rfl HI.out) rfl ⟨arr, cnt (ls.take k), by rw [HB.out], hcnt.out, fun l => ?_, (fun h => by rw [HB.out] at h; cases h), bel_setCells (Nat.le_refl _) _ _ _ rbel⟩
          have h1 := cnt_le (ls.take k) l
          rw [List.length_take] at h1
          omega
        · have hget := hcnt.out.2 x (by omega)
          have c1 := blk.cell x
          rw [hget] at c1
          have f1 := blk.frozen x
          have h1 := cnt_le (ls.take k) x
          rw [List.length_take] at h1
          have hnx : Cnts (cnt (ls.take (k + 1))) 16 (arr.setIfInBounds x (.int .i64 ((cnt (ls.take k) x + 1 : Nat) : Int))) := by
            refine hcnt.out.set ?_ fun l hl => ?_
            · rw [HTK.out, cnt_snoc, if_pos rfl]
            · rw [HTK.out, cnt_snoc, if_neg (fun e => hl e.symm)]; rfl
          generalize cnt (ls.take k) x = y at *
          have HNX := Lib.hid hnx
          have hsn : ∀ z ∈ ls.take (k + 1), z ≤ 15 := by
            intro z hz
            rw [HTK.out, List.mem_append, List.mem_singleton] at hz
            rcases hz with hz | rfl
            · exact hsm.out z hz
            · omega
          have HSN := Lib.hid hsn
          clear hget hnx hsn
          have x1 : (x : Int) < 16 := by omega
          have x0 : (0 : Int) ≤ (x : Int) := by omega
          go_wp2_with fail
          go_roundw
          case rel =>
            go_light
            exact ⟨k + 1, _, by omega, by go_num, blk.set x _, HNX, HSN, bel_set (p := ⟨w.heap.size, x, none⟩) (Nat.le_refl _) rbel⟩
          case measure => go_light; simp [intOf]; omega
      · obtain rfl : k = n := by omega
        have hall : ls.take k = ls := List.take_of_length_le (by have := HN.out; omega)
        have hgood : goodB ls = true := by
          have := hsm.out
          rw [hall] at this
          unfold goodB
          rw [Bool.and_eq_true, List.all_eq_true]
          exact ⟨by have := HN.out; simp; omega, fun x hx => by simpa using this x hx⟩
        have HG := Lib.hid hgood
        have hc := hcnt.out
        rw [hall] at hc
        have h0 : Cnts (cn ls) 16 (arr.setIfInBounds 0 (.int .i64 ((0 : Nat) : Int))) := hc.set (by simp [cn]) (fun l hl => by simp [cn, hl])
        have H0 := Lib.hid h0
        have hc0 := blk.cell 0
        rw [hc.2 0 (by omega)] at hc0
        generalize cnt ls 0 = y at hc0
        have blk1 := blk.set 0 (.int .i64 0)
        have hfr1 := blk1.frozen 0
        have hinf1 : (Tryz.prog.info? 238).map (·.size) = some (arr.setIfInBounds 0 (.int .i64 0)).size := by rw [Array.size_setIfInBounds]; exact HI.out
        have HI1 := Lib.hid hinf1
        have HONE := Lib.hid h0.one
        clear hall hgood hc h0 hinf1
        obtain ⟨arr1, ha1⟩ : ∃ arr1, arr1 = arr.setIfInBounds 0 (.int .i64 0) := ⟨_, rfl⟩
        have H0' : Hid (Cnts (cn ls) 16 arr1) := by rw [ha1]; exact H0
        have HONE' : Hid (arr1.all (·.oneCell') = true) := by rw [ha1]; exact HONE
        rw [← ha1] at blk1 HI1
        clear H0 HONE ha1
        go_wp2_with (first
            | (refine wpList_load_row rfl 238 (.tmp 2) rfl w.heap.size (by rfl) _ arr1 (0, 0) _ blk1 Tryz.underlying238 rfl HI1.out ?_)
            | (refine wpList_store_mid rfl 238 (.tmp 2) _ rfl w.heap.size 0 arr1 (by rfl) (by rfl) (there_blk blk1) HI1.out HONE'.out ?_))
        have blk2 := blk_setCells arr1.toList 0 _ blk1 (fun j v hv => by rw [Nat.zero_add]; simpa using hv)
        refine bodyPost_ret (results_cell_tmp rfl _ _ w.heap.size _ arr1 _ (.bool true) rfl rfl blk2 Tryz.underlying238 rfl HI1.out) rfl ⟨arr1, cn ls, by rw [HG.out], H0'.out, fun l => ?_, (fun _ => rfl), bel_setCells (Nat.le_refl _) _ _ _ (bel_set (p := ⟨w.heap.size, 0, none⟩) (Nat.le_refl _) rbel)⟩
        have h1 := cn_le ls l
        have := HN.out
        omega
  · have hbad : goodB ls = false := by
      unfold goodB
      have : decide (ls.length ≤ 300) = false := by simp; have := HN.out; omega
      rw [this, Bool.false_and]
    have HB := Lib.hid hbad
    clear hbad
    have blk : Blk (w.alloc (.cells #[.int .i64 0, .int .i64 0, .int .i64 0, .int .i64 0, .int .i64 0, .int .i64 0, .int .i64 0, .int .i64 0, .int .i64 0, .int .i64 0, .int .i64 0, .int .i64 0, .int .i64 0, .int .i64 0, .int .i64 0, .int .i64 0] 238)) w.heap.size 238 _ := Blk.made _ _ _
    go_enter Tryz.func172, Tryz.ntmps172
    go_wp2_with (first
        | (refine wpList_load_row rfl 238 (.tmp 2) rfl w.heap.size (by rfl) _ _ (0, 0) _ blk Tryz.underlying238 rfl info_counts ?_)
        | (refine wpList_store_mid rfl 238 (.tmp 2) _ rfl w.heap.size 0 _ (by rfl) (by rfl) (there_blk blk) info_counts Cnts.zero.one ?_))
    have blk2 := blk_setCells _ 0 _ blk (fun j v hv => by rw [Nat.zero_add]; simpa using hv)
    refine bodyPost_ret (results_cell_tmp rfl _ _ w.heap.size _ _ _ (.bool false) rfl rfl blk2 Tryz.underlying238 rfl info_counts) rfl ⟨_, _, by rw [HB.out], Cnts.zero, fun l => by omega, (fun h => by rw [HB.out] at h; cases h), bel_setCells (Nat.le_refl _) _ _ _ (bel_alloc0 (Below.refl _ _))⟩
end Go.Proofs.YtidclmmnfienlaaGreatDoor.Canon

namespace Go.Proofs.YtidclmmnfienlaaGreatDoor.Canon
open Go.RowKit Go.Proofs.YtidclmmnfienlaaGreatDoor.Mem

def wsF (f : Nat → Nat) : Nat → Nat
  | 0 => 0
  | l + 1 => wsF f l + (if l = 0 then 0 else f l) * 2 ^ (15 - l)
def wnF (f : Nat → Nat) : Nat → Nat
  | 0 => 0
  | l + 1 => wnF f l + (if l = 0 then 0 else f l)
theorem wsF_cn (ls : List Nat) : ∀ l, wsF (cn ls) l = wsum ls l
  | 0 => rfl
  | l + 1 => by
    rw [wsF, wsum, wsF_cn ls l]
    by_cases h : l = 0 <;> simp [h, cn]
theorem wnF_cn (ls : List Nat) : ∀ l, wnF (cn ls) l = wnum ls l
  | 0 => rfl
  | l + 1 => by
    rw [wnF, wnum, wnF_cn ls l]
    by_cases h : l = 0 <;> simp [h, cn]
theorem wsF_le (f : Nat → Nat) (hf : ∀ l, f l ≤ 300) : ∀ l, wsF f l ≤ l * 9830400
  | 0 => by simp [wsF]
  | l + 1 => by
    have h1 := wsF_le f hf l
    have h2 := hf l
    have h3 : 2 ^ (15 - l) ≤ 2 ^ 15 := Nat.pow_le_pow_right (by omega) (by omega)
    have h4 : (if l = 0 then 0 else f l) * 2 ^ (15 - l) ≤ 300 * 32768 := Nat.mul_le_mul (by split <;> omega) h3
    rw [wsF, Nat.add_mul]
    omega
theorem wnF_le (f : Nat → Nat) (hf : ∀ l, f l ≤ 300) : ∀ l, wnF f l ≤ l * 300
  | 0 => by simp [wnF]
  | l + 1 => by
    have h1 := wnF_le f hf l
    have h2 := hf l
    have h3 : (if l = 0 then 0 else f l) ≤ 300 := by split <;> omega
    rw [wnF, Nat.add_mul]
    omega

set_option maxHeartbeats 1000000 in
set_option maxRecDepth 100000 in
theorem weight_any (w : World) (arr : Array Value) (f : Nat → Nat) (hc : Cnts f 16 arr) (hf : ∀ l, f l ≤ 300) :
    Calls Tryz.prog 173 #[.agg arr] w fun e w' => e = .returned (.tuple #[.int .i64 (wsF f 16 : Nat), .int .i64 (wnF f 16 : Nat)]) ∧ Below w.heap.size w w' := by
  have HC := Lib.hid hc
  have HF := Lib.hid hf
  have hsz := hc.1
  have HSZ := Lib.hid hsz
  clear hc hf hsz
  go_enter Tryz.func173, Tryz.ntmps173
  go_wp2_with fail
  go_loopw [2, 3, 4] (fun s n i wr => ∃ (l S N : Nat), 1 ≤ l ∧ l ≤ 16 ∧ i = .int .i64 l ∧ s = .int .i64 S ∧ n = .int .i64 N ∧ Hid (S = wsF f l) ∧ Hid (N = wnF f l) ∧ S ≤ 157286400 ∧ N ≤ 4800 ∧ Blk wr w.heap.size 238 arr ∧ Below w.heap.size w wr) (fun _ _ i _ => 16 - (intOf i).toNat)
  case atStart => exact ⟨1, 0, 0, by omega, by omega, rfl, rfl, rfl, rfl, rfl, by omega, by omega, Blk.made _ _ _, bel_alloc0 (Below.refl _ _)⟩
  case round =>
    obtain ⟨l, S, N, hl1, hl2, rfl, rfl, rfl, hS, hN, bS, bN, blk, rbel⟩ := hrel
    by_cases hlt : l < 16
    · have c0 := blk.cell l
      rw [HC.out.2 l hlt] at c0
      have hfl := HF.out l
      have hs1 : S + f l * 2 ^ (15 - l) = wsF f (l + 1) := by rw [wsF, if_neg (by omega), hS.out]
      have hn1 : N + f l = wnF f (l + 1) := by rw [wnF, if_neg (by omega), hN.out]
      have b1 := wsF_le f HF.out (l + 1)
      have b2 := wnF_le f HF.out (l + 1)
      rw [← hs1] at b1
      rw [← hn1] at b2
      have HS1 := Lib.hid hs1
      have HN1 := Lib.hid hn1
      clear hs1 hn1
      generalize f l = y at *
      have x0 : (0 : Int) ≤ (l : Int) := by omega
      have x1 : (l : Int) < 16 := by omega
      go_wp2_with fail
      go_roundw
      case rel =>
        go_light
        have b3 : (l + 1) * 9830400 ≤ 16 * 9830400 := Nat.mul_le_mul_right _ (by omega)
        have b4 : (l + 1) * 300 ≤ 16 * 300 := Nat.mul_le_mul_right _ (by omega)
        generalize hz : y * 2 ^ (15 - l) = z at *
        have e1 : wrap64 ((y : Int) * 2 ^ (15 - l)) = (z : Int) := by
          have : ((y : Int) * 2 ^ (15 - l)) = ((z : Nat) : Int) := by rw [← hz]; simp
          rw [this]
          exact IntWalk.wrap64_in _ ⟨by omega, by omega⟩
        have e2 : wrap64 ((S : Int) + (z : Int)) = ((S + z : Nat) : Int) := by
          rw [IntWalk.wrap64_in _ ⟨by omega, by omega⟩]; simp
        exact ⟨l + 1, S + z, N + y, by omega, by omega, by go_num, by rw [e1, e2], by go_num, HS1, HN1, by omega, by omega, blk, rbel⟩
      case measure => go_light; simp [intOf]; omega
    · obtain rfl : l = 16 := by omega
      go_wp2_with fail
      go_ret2
      go_light
      exact ⟨by rw [← hS.out, ← hN.out]; rfl, rbel⟩

theorem good_of {ls : List Nat} (h : goodB ls = true) : ls.length ≤ 300 ∧ ∀ x ∈ ls, x ≤ 15 := by
  unfold goodB at h
  rw [Bool.and_eq_true, List.all_eq_true] at h
  exact ⟨by simpa using h.1, fun x hx => by simpa using h.2 x hx⟩
/-- The error's number of a check. -/
def checkE (ls : List Nat) : Int := if okB ls = true then 0 else 7
theorem okB_good {ls : List Nat} (h : goodB ls = false) : okB ls = false := by
  unfold okB
  unfold goodB at h
  rw [h, Bool.false_and]
theorem okB_of {ls : List Nat} (h : goodB ls = true) : okB ls = (decide (wnum ls 16 = 0) || decide (wnum ls 16 = 1 ∧ cn ls 1 = 1) || decide (wsum ls 16 = 32768)) := by
  obtain ⟨_, h2⟩ := good_of h
  unfold okB
  unfold goodB at h
  rw [h, Bool.true_and, wsum_kraft ls h2, wnum_used ls h2]
  rfl

theorem blk_over {g : Nat} {t : TypeId} : ∀ (vs pre old : List Value) (w : World), old.length = vs.length → Blk w g t (pre ++ old).toArray → Blk (w.setCells g pre.length vs) g t (pre ++ vs).toArray
  | [], pre, old, w, hl, h => by
    have : old = [] := List.eq_nil_of_length_eq_zero hl
    subst this
    exact h
  | v :: vs, pre, [], w, hl, h => by simp at hl
  | v :: vs, pre, x :: old, w, hl, h => by
    have h1 := h.set pre.length v
    have e1 : (pre ++ x :: old).toArray.setIfInBounds pre.length v = ((pre ++ [v]) ++ old).toArray := by
      apply Array.ext'
      simp
    rw [e1] at h1
    have := blk_over vs (pre ++ [v]) old _ (by simpa using hl) h1
    simpa [World.setCells] using this
theorem blk_over0 {g : Nat} {t : TypeId} {cs arr : Array Value} {w : World} (h : Blk w g t cs) (hs : arr.size = cs.size) : Blk (w.setCells g 0 arr.toList) g t arr := by
  have := blk_over (g := g) (t := t) arr.toList [] cs.toList w (by simp [hs]) (by simpa using h)
  simpa using this

theorem checkE_of (ls : List Nat) (f : Nat → Nat) (hg : goodB ls = true → f = cn ls) : checkE ls = if goodB ls = true ∧ (wnF f 16 = 0 ∨ (wnF f 16 = 1 ∧ f 1 = 1) ∨ wsF f 16 = 32768) then 0 else 7 := by
  unfold checkE
  cases hb : goodB ls
  · rw [okB_good hb]; simp
  · rw [okB_of hb, hg hb, wsF_cn, wnF_cn]
    by_cases h1 : wnum ls 16 = 0 <;> by_cases h2 : (wnum ls 16 = 1 ∧ cn ls 1 = 1) <;> by_cases h3 : wsum ls 16 = 32768 <;> simp [h1, h2, h3]

set_option maxHeartbeats 1000000 in
set_option maxRecDepth 100000 in
theorem check_any (w : World) (A : Option Addr) (n c : Nat) (ls : List Nat) (hn : ls.length = n) (hN : n ≤ 9223372036854775807) (ha : Row w w.heap.size A n 1 (numF .u8 ls)) :
    Calls Tryz.prog 157 #[.slice A n c] w fun e w' => e = .returned (.int .i64 (checkE ls)) ∧ Below w.heap.size w w' := by
  have C := Lib.hid (count_any w A n c ls hn hN ha)
  clear hn ha
  go_enter Tryz.func157, Tryz.ntmps157
  go_wp2_with fail
  refine C.out.mono ?_
  rintro e w1 ⟨arr, f, rfl, hc, hf, hg, hb1⟩
  have hsz : arr.size = 16 := hc.1
  have hch := checkE_of ls f hg
  have bl0 : Blk (w1.alloc (.cells #[.int .i64 0, .int .i64 0, .int .i64 0, .int .i64 0, .int .i64 0, .int .i64 0, .int .i64 0, .int .i64 0, .int .i64 0, .int .i64 0, .int .i64 0, .int .i64 0, .int .i64 0, .int .i64 0, .int .i64 0, .int .i64 0] 238)) w1.heap.size 238 _ := Blk.made _ _ _
  have bl1 := blk_over0 (arr := arr) bl0 (by rw [hsz]; rfl)
  have hth : (w1.alloc (.cells #[.int .i64 0, .int .i64 0, .int .i64 0, .int .i64 0, .int .i64 0, .int .i64 0, .int .i64 0, .int .i64 0, .int .i64 0, .int .i64 0, .int .i64 0, .int .i64 0, .int .i64 0, .int .i64 0, .int .i64 0, .int .i64 0] 238)).there w1.heap.size 0 arr.size := by
    rw [hsz]; exact there_blk bl0
  have hinf : (Tryz.prog.info? 238).map (·.size) = some arr.size := by rw [hsz]; exact info_counts
  have bel1 : Below w.heap.size w ((w1.alloc (.cells #[.int .i64 0, .int .i64 0, .int .i64 0, .int .i64 0, .int .i64 0, .int .i64 0, .int .i64 0, .int .i64 0, .int .i64 0, .int .i64 0, .int .i64 0, .int .i64 0, .int .i64 0, .int .i64 0, .int .i64 0, .int .i64 0] 238)).setCells w1.heap.size 0 arr.toList) :=
    bel_setCells hb1.size _ _ _ (bel_alloc hb1.size hb1)
  have HONE := Lib.hid hc.one
  have HINF := Lib.hid hinf
  have HC := Lib.hid hc
  have HF := Lib.hid hf
  have HCH := Lib.hid hch
  clear hsz hinf hc hf hch hg bl0
  go_upto_region 2 with (refine wpList_store_mid rfl 238 (.tmp 3) (.tmp 10) rfl w1.heap.size 0 arr (by rfl) (by rfl) hth HINF.out HONE.out ?_)
  have hz1 : w1.heap.size < (World.heap ((w1.alloc (.cells #[.int .i64 0, .int .i64 0, .int .i64 0, .int .i64 0, .int .i64 0, .int .i64 0, .int .i64 0, .int .i64 0, .int .i64 0, .int .i64 0, .int .i64 0, .int .i64 0, .int .i64 0, .int .i64 0, .int .i64 0, .int .i64 0] 238)).setCells w1.heap.size 0 arr.toList)).size := bl1.lt
  clear hth
  generalize (w1.alloc (.cells #[.int .i64 0, .int .i64 0, .int .i64 0, .int .i64 0, .int .i64 0, .int .i64 0, .int .i64 0, .int .i64 0, .int .i64 0, .int .i64 0, .int .i64 0, .int .i64 0, .int .i64 0, .int .i64 0, .int .i64 0, .int .i64 0] 238)).setCells w1.heap.size 0 arr.toList = w2 at *
  go_wp2_with (refine wpList_load_row rfl 238 (.tmp 3) rfl w1.heap.size (by rfl) _ arr (0, 0) _ bl1 Tryz.underlying238 rfl HINF.out ?_)
  refine (weight_any w2 arr f HC.out HF.out).mono ?_
  rintro e w3 ⟨rfl, hb3⟩
  have bl3 := bl1.step hb3
  have bel3 : Below w.heap.size w w3 := bel_step hb3 bel1.size bel1
  have c1 := bl3.cell 1
  rw [HC.out.2 1 (by omega)] at c1
  generalize f 1 = y at *
  generalize wnF f 16 = wn at *
  generalize wsF f 16 = ws at *
  clear C hb1 bl1 bel1
  cases hgood : goodB ls
  · rw [hgood] at HCH
    go_wp2_with fail
    go_ret
    refine ⟨ret_int ?_, bel3⟩
    rw [HCH.out]
    simp
  · rw [hgood] at HCH
    go_wp2_with fail
    all_goals
      go_ret
      refine ⟨ret_int ?_, bel3⟩
      rw [HCH.out]
      go_light
      simp only [true_and]
      first | (rw [if_pos (by omega)]; done) | (rw [if_neg (by omega)]; done) | skip
    all_goals
      simp only [bne_iff_ne, ne_eq, bne_eq_false_iff_eq] at *
      first | (rw [if_pos (by omega)]; done) | (rw [if_neg (by omega)]; done)
end Go.Proofs.YtidclmmnfienlaaGreatDoor.Canon

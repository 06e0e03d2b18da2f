/-
  Lengths of words, how many there are of each, their weight, the words: plain functions and their laws. The walks of package canon's count, weight and Check. The walks of package canon's weight and Check. Bits and the bytes that hold them: the plain part. Words of a code and the bits that they are written with: the plain part. The symbols of each length, and which symbol's word bits begin with: the plain part.
-/
import Derived.Test.YtmgjgkdbagbleaaGreatDoorZOneTurned1
import Derived.Test.YtmgjgkdbagbleaaGreatDoorProg
import Derived.BigQuiet
import Derived.BigGuardPart
import Derived.Deep.QuietTactic
import Derived.Deep.Light
import Derived.Laws.Rows
import Derived.Deep.MidRow
import Derived.Deep.DeepCutAuto
namespace Go.Proofs.YtmgjgkdbagbleaaGreatDoor.Canon
open Go.RowKit Go.Proofs.YtmgjgkdbagbleaaGreatDoor.Mem
def cnt (ls : List Nat) (l : Nat) : Nat := ls.countP (fun x => decide (x = l))
def cn (ls : List Nat) (l : Nat) : Nat := if l = 0 then 0 else cnt ls l
theorem cnt_nil (l : Nat) : cnt [] l = 0 := rfl
theorem cnt_snoc (ls : List Nat) (x l : Nat) : cnt (ls ++ [x]) l = cnt ls l + if x = l then 1 else 0 := by
  unfold cnt
  rw [List.countP_append]
  by_cases h : x = l <;> simp [h]
theorem cnt_le (ls : List Nat) (l : Nat) : cnt ls l ≤ ls.length := List.countP_le_length
theorem cn_le (ls : List Nat) (l : Nat) : cn ls l ≤ ls.length := by
  unfold cn; split
  · omega
  · exact cnt_le ls l
theorem take_snoc {α : Type} {l : List α} {k : Nat} {x : α} (h : l[k]? = some x) : l.take (k + 1) = l.take k ++ [x] := by
  rw [List.take_add_one, h]; rfl
def wsum (ls : List Nat) : Nat → Nat
  | 0 => 0
  | l + 1 => wsum ls l + cn ls l * 2 ^ (15 - l)
def wnum (ls : List Nat) : Nat → Nat
  | 0 => 0
  | l + 1 => wnum ls l + cn ls l
def kraft (ls : List Nat) : Nat := (ls.map fun x => if x = 0 then 0 else 2 ^ (15 - x)).sum
def used (ls : List Nat) : Nat := ls.countP (fun x => decide (x ≠ 0))
theorem cn_cons (x : Nat) (ls : List Nat) (l : Nat) : cn (x :: ls) l = cn ls l + if x ≠ 0 ∧ x = l then 1 else 0 := by
  unfold cn cnt
  by_cases hl : l = 0
  · subst hl
    simp
  · rw [if_neg hl, if_neg hl, List.countP_cons]
    by_cases hx : x = l
    · simp [hx, hl]
    · simp [hx]
theorem wsum_nil : ∀ l, wsum [] l = 0
  | 0 => rfl
  | l + 1 => by rw [wsum, wsum_nil l]; simp [cn, cnt_nil]
theorem wnum_nil : ∀ l, wnum [] l = 0
  | 0 => rfl
  | l + 1 => by rw [wnum, wnum_nil l]; simp [cn, cnt_nil]
theorem wsum_cons (x : Nat) (ls : List Nat) : ∀ l, wsum (x :: ls) l = wsum ls l + if x ≠ 0 ∧ x < l then 2 ^ (15 - x) else 0
  | 0 => by simp [wsum]
  | l + 1 => by
    rw [wsum, wsum_cons x ls l, wsum, cn_cons, Nat.add_mul]
    by_cases h0 : x = 0
    · simp [h0]
    · by_cases h1 : x = l
      · subst h1
        simp [h0]; omega
      · by_cases h2 : x < l
        · have : x < l + 1 := by omega
          simp [h0, h1, h2, this]; omega
        · have : ¬ x < l + 1 := by omega
          simp [h1, h2, this]
theorem wnum_cons (x : Nat) (ls : List Nat) : ∀ l, wnum (x :: ls) l = wnum ls l + if x ≠ 0 ∧ x < l then 1 else 0
  | 0 => by simp [wnum]
  | l + 1 => by
    rw [wnum, wnum_cons x ls l, wnum, cn_cons]
    by_cases h0 : x = 0
    · simp [h0]
    · by_cases h1 : x = l
      · subst h1
        simp [h0]; omega
      · by_cases h2 : x < l
        · have : x < l + 1 := by omega
          simp [h0, h1, h2, this]; omega
        · have : ¬ x < l + 1 := by omega
          simp [h1, h2, this]
theorem wsum_kraft : ∀ (ls : List Nat), (∀ x ∈ ls, x ≤ 15) → wsum ls 16 = kraft ls
  | [], _ => by rw [wsum_nil]; rfl
  | x :: ls, h => by
    have h1 := h x (by simp)
    rw [wsum_cons, wsum_kraft ls (fun y hy => h y (by simp [hy]))]
    unfold kraft
    rw [List.map_cons, List.sum_cons]
    by_cases h0 : x = 0
    · simp [h0]
    · have : x < 16 := by omega
      simp [h0, this]; omega
theorem wnum_used : ∀ (ls : List Nat), (∀ x ∈ ls, x ≤ 15) → wnum ls 16 = used ls
  | [], _ => by rw [wnum_nil]; rfl
  | x :: ls, h => by
    have h1 := h x (by simp)
    rw [wnum_cons, wnum_used ls (fun y hy => h y (by simp [hy]))]
    unfold used
    rw [List.countP_cons]
    by_cases h0 : x = 0
    · simp [h0]
    · have : x < 16 := by omega
      simp [h0, this]
def okB (ls : List Nat) : Bool := decide (ls.length ≤ 300) && ls.all (fun x => decide (x ≤ 15)) && (decide (used ls = 0) || decide (used ls = 1 ∧ cnt ls 1 = 1) || decide (kraft ls = 32768))
def fst (ls : List Nat) : Nat → Nat
  | 0 => 0
  | l + 1 => 2 * (fst ls l + cn ls l)
def code (ls : List Nat) (s : Nat) : Nat := let x := ls.getD s 0; if x = 0 then 0 else fst ls x + cnt (ls.take s) x
def codes (ls : List Nat) : List Nat := (List.range ls.length).map (code ls)
theorem fst_le (ls : List Nat) : ∀ l, fst ls l + 2 * ls.length ≤ 2 ^ (l + 1) * ls.length
  | 0 => by simp [fst]
  | l + 1 => by
    have h1 := fst_le ls l
    have h2 := cn_le ls l
    have h3 : 2 ^ (l + 1 + 1) * ls.length = 2 * (2 ^ (l + 1) * ls.length) := by rw [Nat.pow_succ 2 (l + 1), Nat.mul_comm (2 ^ (l + 1)) 2, Nat.mul_assoc]
    rw [fst, h3]
    omega
def numF (k : IntKind) (l : List Nat) : Nat → Nat → Value := fun i _ => .int k (l.getD i 0 : Nat)
def Cnts (f : Nat → Nat) (n : Nat) (arr : Array Value) : Prop := arr.size = n ∧ ∀ l, l < n → arr[l]? = some (.int .i64 (f l))
theorem Cnts.set {f g : Nat → Nat} {n : Nat} {arr : Array Value} {x v : Nat} (h : Cnts f n arr) (hv : g x = v) (ho : ∀ l, l ≠ x → g l = f l) : Cnts g n (arr.setIfInBounds x (.int .i64 (v : Nat))) := by
  refine ⟨by rw [Array.size_setIfInBounds]; exact h.1, fun l hl => ?_⟩
  rw [Array.getElem?_setIfInBounds]
  by_cases e : x = l
  · subst e
    rw [if_pos rfl, if_pos (by have := h.1; omega), hv]
  · rw [if_neg e, h.2 l hl, ho l (Ne.symm e)]
end Go.Proofs.YtmgjgkdbagbleaaGreatDoor.Canon
namespace Go.Proofs.YtmgjgkdbagbleaaGreatDoor.Canon
open Go.RowKit Go.Proofs.YtmgjgkdbagbleaaGreatDoor.Mem
theorem set_same {cs : Array Value} {i : Nat} {v : Value} (h : cs[i]? = some v) : cs.setIfInBounds i v = cs := by
  apply Array.ext_getElem?
  intro j
  rw [Array.getElem?_setIfInBounds]
  split
  · rename_i e
    subst e
    obtain ⟨hi, _⟩ := Array.getElem?_eq_some_iff.1 h
    rw [if_pos hi, h]
  · rfl
theorem blk_setCells {g : Nat} {t : TypeId} {cs : Array Value} : ∀ (vs : List Value) (o : Nat) (w : World), Blk w g t cs → (∀ j v, vs[j]? = some v → cs[o + j]? = some v) → Blk (w.setCells g o vs) g t cs
  | [], _, _, h, _ => h
  | v :: vs, o, w, h, hc => by
    refine blk_setCells vs (o + 1) _ ?_ (fun j u hu => by rw [show o + 1 + j = o + (j + 1) by omega]; exact hc (j + 1) u hu)
    have := h.set o v
    rwa [set_same (by simpa using hc 0 v rfl)] at this
theorem bel_setCells {B g : Nat} {a : World} (hB : B ≤ g) : ∀ (vs : List Value) (o : Nat) (w : World), Below B a w → Below B a (w.setCells g o vs)
  | [], _, _, h => h
  | _ :: vs, o, _, h => bel_setCells hB vs (o + 1) _ (bel_set (p := ⟨g, o, none⟩) hB h)
theorem there_blk {w : World} {g : Nat} {t : TypeId} {cs : Array Value} (h : Blk w g t cs) : w.there g 0 cs.size := fun j hj => by
  rw [Nat.zero_add]
  exact ⟨by rw [h.cell, Array.getElem?_eq_getElem hj]; rfl, h.frozen j⟩
theorem Cnts.one {f : Nat → Nat} {n : Nat} {arr : Array Value} (h : Cnts f n arr) : arr.all (·.oneCell') = true := by
  rw [Array.all_eq_true]
  intro i hi
  have := h.2 i (by have := h.1; omega)
  rw [Array.getElem?_eq_getElem hi] at this
  injection this with this
  rw [this]
  rfl
theorem Cnts.zero : Cnts (fun _ => 0) 16 #[.int .i64 0, .int .i64 0, .int .i64 0, .int .i64 0, .int .i64 0, .int .i64 0, .int .i64 0, .int .i64 0, .int .i64 0, .int .i64 0, .int .i64 0, .int .i64 0, .int .i64 0, .int .i64 0, .int .i64 0, .int .i64 0] := by
  refine ⟨rfl, fun l hl => ?_⟩
  have : l = 0 ∨ l = 1 ∨ l = 2 ∨ l = 3 ∨ l = 4 ∨ l = 5 ∨ l = 6 ∨ l = 7 ∨ l = 8 ∨ l = 9 ∨ l = 10 ∨ l = 11 ∨ l = 12 ∨ l = 13 ∨ l = 14 ∨ l = 15 := by omega
  rcases this with rfl | rfl | rfl | rfl | rfl | rfl | rfl | rfl | rfl | rfl | rfl | rfl | rfl | rfl | rfl | rfl <;> rfl
theorem results_cell_tmp {P : Program} {fn : Func} {p q : Tmp} {ty : TypeId} (h : fn.results = #[.cell p ty, .tmp q]) (tmps : Array Value) (w : World) (g : Nat) (t : TypeId) (cs : Array Value) (d : TypeDesc) (u : Value)
    (hp : tmps.getD p undef = .pointer (some ⟨g, 0, none⟩)) (hq : tmps.getD q undef = u) (hg : Blk w g t cs)
    (hu : P.underlying ty = some d) (hd : (match d with | .struct _ | .array _ _ => true | _ => false) = true) (hi : (P.info? ty).map (·.size) = some cs.size) :
    (results fn tmps).run P w = .ok (.tuple #[.agg cs, u]) w := by
  have hp' : tmps[p]?.getD undef = .pointer (some ⟨g, 0, none⟩) := by simpa using hp
  have hq' : tmps[q]?.getD undef = u := by simpa using hq
  simp [results, h, hp', hq', asAddr, run_loadVar_row w g t ty cs (0, 0) d hg hu hd hi]
theorem info_counts : (Tryz.prog.info? 385).map (·.size) = some 16 := by kernel_rfl
def goodB (ls : List Nat) : Bool := decide (ls.length ≤ 300) && ls.all (fun x => decide (x ≤ 15))
def CountPost (ls : List Nat) (w : World) (e : Ending) (w' : World) : Prop :=
  ∃ (arr : Array Value) (f : Nat → Nat), e = .returned (.tuple #[.agg arr, .bool (goodB ls)]) ∧ Cnts f 16 arr ∧ (∀ l, f l ≤ 300) ∧ (goodB ls = true → f = cn ls) ∧ Below w.heap.size w w'
theorem num_cell {w : World} {B n : Nat} {A : Option Addr} {k : IntKind} {ls : List Nat} (h : Row w B A n 1 (numF k ls)) (hn : ls.length = n) {i : Nat} (hi : i < n) :
    ∃ b off x, A = some ⟨b, off, none⟩ ∧ b < B ∧ ls[i]? = some x ∧ w.cell? ⟨b, off + i, none⟩ = some (.int k (x : Nat)) := by
  obtain ⟨b, off, e, hb, hc⟩ := h (by omega)
  have hl : i < ls.length := by omega
  have h1 := hc i 0 hi (by omega)
  simp only [numF, Nat.mul_one, Nat.add_zero, List.getD_eq_getElem?_getD, List.getElem?_eq_getElem hl, Option.getD_some] at h1
  exact ⟨b, off, ls[i], e, hb, List.getElem?_eq_getElem hl, h1⟩
set_option maxHeartbeats 1000000 in
set_option maxRecDepth 100000 in
theorem count_any (w : World) (A : Option Addr) (n c : Nat) (ls : List Nat) (hn : ls.length = n) (hN : n ≤ 9223372036854775807) (ha : Row w w.heap.size A n 1 (numF .u8 ls)) :
    Calls Tryz.prog 328 #[.slice A n c] w (CountPost ls w) := by
  have HN := Lib.hid hn
  clear hn
  by_cases hbig : n ≤ 300
  · have hd : decide (300 < n) = false := by simp; omega
    go_enter Tryz.func328, Tryz.ntmps328
    go_wp2_with fail
    go_loopw [12] (fun i wr => ∃ (k : Nat) (arr : Array Value), k ≤ n ∧ i = .int .i64 k ∧ Blk wr w.heap.size 385 arr ∧ Hid (Cnts (cnt (ls.take k)) 16 arr) ∧ Hid (∀ x ∈ ls.take k, x ≤ 15) ∧ Below w.heap.size w wr) (fun i _ => n - (intOf i).toNat)
    case atStart => exact ⟨0, _, by omega, rfl, Blk.made _ _ _, Cnts.zero, fun x hx => by simp at hx, bel_alloc0 (Below.refl _ _)⟩
    case round =>
      obtain ⟨k, arr, hk, rfl, blk, hcnt, hsm, rbel⟩ := hrel
      have hinf : (Tryz.prog.info? 385).map (·.size) = some arr.size := by rw [hcnt.out.1]; exact info_counts
      have HI := Lib.hid hinf
      clear hinf
      have hfree := blk.frozen 0
      by_cases hlt : k < n
      · obtain ⟨b, off, x, rfl, hbb, hx, c0⟩ := num_cell (ha.below rbel) HN.out hlt
        have htk := take_snoc hx
        have HX := Lib.hid hx
        have HTK := Lib.hid htk
        clear hx htk
        by_cases h15 : 15 < x
        · have hbad : goodB ls = false := by
            unfold goodB
            have : ls.all (fun x => decide (x ≤ 15)) = false := by
              rw [List.all_eq_false]
              exact ⟨x, List.mem_of_getElem? HX.out, by simpa using h15⟩
            rw [this, Bool.and_false]
          have HB := Lib.hid hbad
          clear hbad
          go_wp2_with (first
            | (refine wpList_load_row rfl 385 (.tmp 2) rfl w.heap.size (by rfl) _ arr (0, 0) _ blk Tryz.underlying385 rfl HI.out ?_)
            | (refine wpList_store_mid rfl 385 (.tmp 2) _ rfl w.heap.size 0 arr (by rfl) (by rfl) (there_blk blk) HI.out hcnt.out.one ?_))
          have blk2 := blk_setCells arr.toList 0 wr blk (fun j v hv => by rw [Nat.zero_add]; simpa using hv)
          refine bodyPost_ret (results_cell_tmp rfl _ _ w.heap.size _ arr _ (.bool false) rfl rfl blk2 Tryz.underlying385 rfl HI.out) rfl ⟨arr, cnt (ls.take k), by rw [HB.out], hcnt.out, fun l => ?_, (fun h => by rw [HB.out] at h; cases h), bel_setCells (Nat.le_refl _) _ _ _ rbel⟩
          have h1 := cnt_le (ls.take k) l
          rw [List.length_take] at h1
          omega
        · have hget := hcnt.out.2 x (by omega)
          have c1 := blk.cell x
          rw [hget] at c1
          have f1 := blk.frozen x
          have h1 := cnt_le (ls.take k) x
          rw [List.length_take] at h1
          have hnx : Cnts (cnt (ls.take (k + 1))) 16 (arr.setIfInBounds x (.int .i64 ((cnt (ls.take k) x + 1 : Nat) : Int))) := by
            refine hcnt.out.set ?_ fun l hl => ?_
            · rw [HTK.out, cnt_snoc, if_pos rfl]
            · rw [HTK.out, cnt_snoc, if_neg (fun e => hl e.symm)]; rfl
          generalize cnt (ls.take k) x = y at *
          have HNX := Lib.hid hnx
          have hsn : ∀ z ∈ ls.take (k + 1), z ≤ 15 := by
            intro z hz
            rw [HTK.out, List.mem_append, List.mem_singleton] at hz
            rcases hz with hz | rfl
            · exact hsm.out z hz
            · omega
          have HSN := Lib.hid hsn
          clear hget hnx hsn
          have x1 : (x : Int) < 16 := by omega
          have x0 : (0 : Int) ≤ (x : Int) := by omega
          go_wp2_with fail
          go_roundw
          case rel =>
            go_light
            exact ⟨k + 1, _, by omega, by go_num, blk.set x _, HNX, HSN, bel_set (p := ⟨w.heap.size, x, none⟩) (Nat.le_refl _) rbel⟩
          case measure => go_light; simp [intOf]; omega
      · obtain rfl : k = n := by omega
        have hall : ls.take k = ls := List.take_of_length_le (by have := HN.out; omega)
        have hgood : goodB ls = true := by
          have := hsm.out
          rw [hall] at this
          unfold goodB
          rw [Bool.and_eq_true, List.all_eq_true]
          exact ⟨by have := HN.out; simp; omega, fun x hx => by simpa using this x hx⟩
        have HG := Lib.hid hgood
        have hc := hcnt.out
        rw [hall] at hc
        have h0 : Cnts (cn ls) 16 (arr.setIfInBounds 0 (.int .i64 ((0 : Nat) : Int))) := hc.set (by simp [cn]) (fun l hl => by simp [cn, hl])
        have H0 := Lib.hid h0
        have hc0 := blk.cell 0
        rw [hc.2 0 (by omega)] at hc0
        generalize cnt ls 0 = y at hc0
        have blk1 := blk.set 0 (.int .i64 0)
        have hfr1 := blk1.frozen 0
        have hinf1 : (Tryz.prog.info? 385).map (·.size) = some (arr.setIfInBounds 0 (.int .i64 0)).size := by rw [Array.size_setIfInBounds]; exact HI.out
        have HI1 := Lib.hid hinf1
        have HONE := Lib.hid h0.one
        clear hall hgood hc h0 hinf1
        obtain ⟨arr1, ha1⟩ : ∃ arr1, arr1 = arr.setIfInBounds 0 (.int .i64 0) := ⟨_, rfl⟩
        have H0' : Hid (Cnts (cn ls) 16 arr1) := by rw [ha1]; exact H0
        have HONE' : Hid (arr1.all (·.oneCell') = true) := by rw [ha1]; exact HONE
        rw [← ha1] at blk1 HI1
        clear H0 HONE ha1
        go_wp2_with (first
            | (refine wpList_load_row rfl 385 (.tmp 2) rfl w.heap.size (by rfl) _ arr1 (0, 0) _ blk1 Tryz.underlying385 rfl HI1.out ?_)
            | (refine wpList_store_mid rfl 385 (.tmp 2) _ rfl w.heap.size 0 arr1 (by rfl) (by rfl) (there_blk blk1) HI1.out HONE'.out ?_))
        have blk2 := blk_setCells arr1.toList 0 _ blk1 (fun j v hv => by rw [Nat.zero_add]; simpa using hv)
        refine bodyPost_ret (results_cell_tmp rfl _ _ w.heap.size _ arr1 _ (.bool true) rfl rfl blk2 Tryz.underlying385 rfl HI1.out) rfl ⟨arr1, cn ls, by rw [HG.out], H0'.out, fun l => ?_, (fun _ => rfl), bel_setCells (Nat.le_refl _) _ _ _ (bel_set (p := ⟨w.heap.size, 0, none⟩) (Nat.le_refl _) rbel)⟩
        have h1 := cn_le ls l
        have := HN.out
        omega
  · have hbad : goodB ls = false := by
      unfold goodB
      have : decide (ls.length ≤ 300) = false := by simp; have := HN.out; omega
      rw [this, Bool.false_and]
    have HB := Lib.hid hbad
    clear hbad
    have blk : Blk (w.alloc (.cells #[.int .i64 0, .int .i64 0, .int .i64 0, .int .i64 0, .int .i64 0, .int .i64 0, .int .i64 0, .int .i64 0, .int .i64 0, .int .i64 0, .int .i64 0, .int .i64 0, .int .i64 0, .int .i64 0, .int .i64 0, .int .i64 0] 385)) w.heap.size 385 _ := Blk.made _ _ _
    go_enter Tryz.func328, Tryz.ntmps328
    go_wp2_with (first
        | (refine wpList_load_row rfl 385 (.tmp 2) rfl w.heap.size (by rfl) _ _ (0, 0) _ blk Tryz.underlying385 rfl info_counts ?_)
        | (refine wpList_store_mid rfl 385 (.tmp 2) _ rfl w.heap.size 0 _ (by rfl) (by rfl) (there_blk blk) info_counts Cnts.zero.one ?_))
    have blk2 := blk_setCells _ 0 _ blk (fun j v hv => by rw [Nat.zero_add]; simpa using hv)
    refine bodyPost_ret (results_cell_tmp rfl _ _ w.heap.size _ _ _ (.bool false) rfl rfl blk2 Tryz.underlying385 rfl info_counts) rfl ⟨_, _, by rw [HB.out], Cnts.zero, fun l => by omega, (fun h => by rw [HB.out] at h; cases h), bel_setCells (Nat.le_refl _) _ _ _ (bel_alloc0 (Below.refl _ _))⟩
end Go.Proofs.YtmgjgkdbagbleaaGreatDoor.Canon
namespace Go.Proofs.YtmgjgkdbagbleaaGreatDoor.Canon
open Go.RowKit Go.Proofs.YtmgjgkdbagbleaaGreatDoor.Mem
def wsF (f : Nat → Nat) : Nat → Nat
  | 0 => 0
  | l + 1 => wsF f l + (if l = 0 then 0 else f l) * 2 ^ (15 - l)
def wnF (f : Nat → Nat) : Nat → Nat
  | 0 => 0
  | l + 1 => wnF f l + (if l = 0 then 0 else f l)
theorem wsF_cn (ls : List Nat) : ∀ l, wsF (cn ls) l = wsum ls l
  | 0 => rfl
  | l + 1 => by
    rw [wsF, wsum, wsF_cn ls l]
    by_cases h : l = 0 <;> simp [h, cn]
theorem wnF_cn (ls : List Nat) : ∀ l, wnF (cn ls) l = wnum ls l
  | 0 => rfl
  | l + 1 => by
    rw [wnF, wnum, wnF_cn ls l]
    by_cases h : l = 0 <;> simp [h, cn]
theorem wsF_le (f : Nat → Nat) (hf : ∀ l, f l ≤ 300) : ∀ l, wsF f l ≤ l * 9830400
  | 0 => by simp [wsF]
  | l + 1 => by
    have h1 := wsF_le f hf l
    have h2 := hf l
    have h3 : 2 ^ (15 - l) ≤ 2 ^ 15 := Nat.pow_le_pow_right (by omega) (by omega)
    have h4 : (if l = 0 then 0 else f l) * 2 ^ (15 - l) ≤ 300 * 32768 := Nat.mul_le_mul (by split <;> omega) h3
    rw [wsF, Nat.add_mul]
    omega
theorem wnF_le (f : Nat → Nat) (hf : ∀ l, f l ≤ 300) : ∀ l, wnF f l ≤ l * 300
  | 0 => by simp [wnF]
  | l + 1 => by
    have h1 := wnF_le f hf l
    have h2 := hf l
    have h3 : (if l = 0 then 0 else f l) ≤ 300 := by split <;> omega
    rw [wnF, Nat.add_mul]
    omega
set_option maxHeartbeats 1000000 in
set_option maxRecDepth 100000 in
theorem weight_any (w : World) (arr : Array Value) (f : Nat → Nat) (hc : Cnts f 16 arr) (hf : ∀ l, f l ≤ 300) :
    Calls Tryz.prog 329 #[.agg arr] w fun e w' => e = .returned (.tuple #[.int .i64 (wsF f 16 : Nat), .int .i64 (wnF f 16 : Nat)]) ∧ Below w.heap.size w w' := by
  have HC := Lib.hid hc
  have HF := Lib.hid hf
  have hsz := hc.1
  have HSZ := Lib.hid hsz
  clear hc hf hsz
  go_enter Tryz.func329, Tryz.ntmps329
  go_wp2_with fail
  go_loopw [2, 3, 4] (fun s n i wr => ∃ (l S N : Nat), 1 ≤ l ∧ l ≤ 16 ∧ i = .int .i64 l ∧ s = .int .i64 S ∧ n = .int .i64 N ∧ Hid (S = wsF f l) ∧ Hid (N = wnF f l) ∧ S ≤ 157286400 ∧ N ≤ 4800 ∧ Blk wr w.heap.size 385 arr ∧ Below w.heap.size w wr) (fun _ _ i _ => 16 - (intOf i).toNat)
  case atStart => exact ⟨1, 0, 0, by omega, by omega, rfl, rfl, rfl, rfl, rfl, by omega, by omega, Blk.made _ _ _, bel_alloc0 (Below.refl _ _)⟩
  case round =>
    obtain ⟨l, S, N, hl1, hl2, rfl, rfl, rfl, hS, hN, bS, bN, blk, rbel⟩ := hrel
    by_cases hlt : l < 16
    · have c0 := blk.cell l
      rw [HC.out.2 l hlt] at c0
      have hfl := HF.out l
      have hs1 : S + f l * 2 ^ (15 - l) = wsF f (l + 1) := by rw [wsF, if_neg (by omega), hS.out]
      have hn1 : N + f l = wnF f (l + 1) := by rw [wnF, if_neg (by omega), hN.out]
      have b1 := wsF_le f HF.out (l + 1)
      have b2 := wnF_le f HF.out (l + 1)
      rw [← hs1] at b1
      rw [← hn1] at b2
      have HS1 := Lib.hid hs1
      have HN1 := Lib.hid hn1
      clear hs1 hn1
      generalize f l = y at *
      have x0 : (0 : Int) ≤ (l : Int) := by omega
      have x1 : (l : Int) < 16 := by omega
      go_wp2_with fail
      go_roundw
      case rel =>
        go_light
        have b3 : (l + 1) * 9830400 ≤ 16 * 9830400 := Nat.mul_le_mul_right _ (by omega)
        have b4 : (l + 1) * 300 ≤ 16 * 300 := Nat.mul_le_mul_right _ (by omega)
        generalize hz : y * 2 ^ (15 - l) = z at *
        have e1 : wrap64 ((y : Int) * 2 ^ (15 - l)) = (z : Int) := by
          have : ((y : Int) * 2 ^ (15 - l)) = ((z : Nat) : Int) := by rw [← hz]; simp
          rw [this]
          exact IntWalk.wrap64_in _ ⟨by omega, by omega⟩
        have e2 : wrap64 ((S : Int) + (z : Int)) = ((S + z : Nat) : Int) := by
          rw [IntWalk.wrap64_in _ ⟨by omega, by omega⟩]; simp
        exact ⟨l + 1, S + z, N + y, by omega, by omega, by go_num, by rw [e1, e2], by go_num, HS1, HN1, by omega, by omega, blk, rbel⟩
      case measure => go_light; simp [intOf]; omega
    · obtain rfl : l = 16 := by omega
      go_wp2_with fail
      go_ret2
      go_light
      exact ⟨by rw [← hS.out, ← hN.out]; rfl, rbel⟩
theorem good_of {ls : List Nat} (h : goodB ls = true) : ls.length ≤ 300 ∧ ∀ x ∈ ls, x ≤ 15 := by
  unfold goodB at h
  rw [Bool.and_eq_true, List.all_eq_true] at h
  exact ⟨by simpa using h.1, fun x hx => by simpa using h.2 x hx⟩
def checkE (ls : List Nat) : Int := if okB ls = true then 0 else 7
theorem okB_good {ls : List Nat} (h : goodB ls = false) : okB ls = false := by
  unfold okB
  unfold goodB at h
  rw [h, Bool.false_and]
theorem okB_of {ls : List Nat} (h : goodB ls = true) : okB ls = (decide (wnum ls 16 = 0) || decide (wnum ls 16 = 1 ∧ cn ls 1 = 1) || decide (wsum ls 16 = 32768)) := by
  obtain ⟨_, h2⟩ := good_of h
  unfold okB
  unfold goodB at h
  rw [h, Bool.true_and, wsum_kraft ls h2, wnum_used ls h2]
  rfl
theorem blk_over {g : Nat} {t : TypeId} : ∀ (vs pre old : List Value) (w : World), old.length = vs.length → Blk w g t (pre ++ old).toArray → Blk (w.setCells g pre.length vs) g t (pre ++ vs).toArray
  | [], pre, old, w, hl, h => by
    have : old = [] := List.eq_nil_of_length_eq_zero hl
    subst this
    exact h
  | v :: vs, pre, [], w, hl, h => by simp at hl
  | v :: vs, pre, x :: old, w, hl, h => by
    have h1 := h.set pre.length v
    have e1 : (pre ++ x :: old).toArray.setIfInBounds pre.length v = ((pre ++ [v]) ++ old).toArray := by
      apply Array.ext'
      simp
    rw [e1] at h1
    have := blk_over vs (pre ++ [v]) old _ (by simpa using hl) h1
    simpa [World.setCells] using this
theorem blk_over0 {g : Nat} {t : TypeId} {cs arr : Array Value} {w : World} (h : Blk w g t cs) (hs : arr.size = cs.size) : Blk (w.setCells g 0 arr.toList) g t arr := by
  have := blk_over (g := g) (t := t) arr.toList [] cs.toList w (by simp [hs]) (by simpa using h)
  simpa using this
theorem checkE_of (ls : List Nat) (f : Nat → Nat) (hg : goodB ls = true → f = cn ls) : checkE ls = if goodB ls = true ∧ (wnF f 16 = 0 ∨ (wnF f 16 = 1 ∧ f 1 = 1) ∨ wsF f 16 = 32768) then 0 else 7 := by
  unfold checkE
  cases hb : goodB ls
  · rw [okB_good hb]; simp
  · rw [okB_of hb, hg hb, wsF_cn, wnF_cn]
    by_cases h1 : wnum ls 16 = 0 <;> by_cases h2 : (wnum ls 16 = 1 ∧ cn ls 1 = 1) <;> by_cases h3 : wsum ls 16 = 32768 <;> simp [h1, h2, h3]
set_option maxHeartbeats 1000000 in
set_option maxRecDepth 100000 in
theorem check_any (w : World) (A : Option Addr) (n c : Nat) (ls : List Nat) (hn : ls.length = n) (hN : n ≤ 9223372036854775807) (ha : Row w w.heap.size A n 1 (numF .u8 ls)) :
    Calls Tryz.prog 309 #[.slice A n c] w fun e w' => e = .returned (.int .i64 (checkE ls)) ∧ Below w.heap.size w w' := by
  have C := Lib.hid (count_any w A n c ls hn hN ha)
  clear hn ha
  go_enter Tryz.func309, Tryz.ntmps309
  go_wp2_with fail
  refine C.out.mono ?_
  rintro e w1 ⟨arr, f, rfl, hc, hf, hg, hb1⟩
  have hsz : arr.size = 16 := hc.1
  have hch := checkE_of ls f hg
  have bl0 : Blk (w1.alloc (.cells #[.int .i64 0, .int .i64 0, .int .i64 0, .int .i64 0, .int .i64 0, .int .i64 0, .int .i64 0, .int .i64 0, .int .i64 0, .int .i64 0, .int .i64 0, .int .i64 0, .int .i64 0, .int .i64 0, .int .i64 0, .int .i64 0] 385)) w1.heap.size 385 _ := Blk.made _ _ _
  have bl1 := blk_over0 (arr := arr) bl0 (by rw [hsz]; rfl)
  have hth : (w1.alloc (.cells #[.int .i64 0, .int .i64 0, .int .i64 0, .int .i64 0, .int .i64 0, .int .i64 0, .int .i64 0, .int .i64 0, .int .i64 0, .int .i64 0, .int .i64 0, .int .i64 0, .int .i64 0, .int .i64 0, .int .i64 0, .int .i64 0] 385)).there w1.heap.size 0 arr.size := by
    rw [hsz]; exact there_blk bl0
  have hinf : (Tryz.prog.info? 385).map (·.size) = some arr.size := by rw [hsz]; exact info_counts
  have bel1 : Below w.heap.size w ((w1.alloc (.cells #[.int .i64 0, .int .i64 0, .int .i64 0, .int .i64 0, .int .i64 0, .int .i64 0, .int .i64 0, .int .i64 0, .int .i64 0, .int .i64 0, .int .i64 0, .int .i64 0, .int .i64 0, .int .i64 0, .int .i64 0, .int .i64 0] 385)).setCells w1.heap.size 0 arr.toList) :=
    bel_setCells hb1.size _ _ _ (bel_alloc hb1.size hb1)
  have HONE := Lib.hid hc.one
  have HINF := Lib.hid hinf
  have HC := Lib.hid hc
  have HF := Lib.hid hf
  have HCH := Lib.hid hch
  clear hsz hinf hc hf hch hg bl0
  go_upto_region 2 with (refine wpList_store_mid rfl 385 (.tmp 3) (.tmp 10) rfl w1.heap.size 0 arr (by rfl) (by rfl) hth HINF.out HONE.out ?_)
  have hz1 : w1.heap.size < (World.heap ((w1.alloc (.cells #[.int .i64 0, .int .i64 0, .int .i64 0, .int .i64 0, .int .i64 0, .int .i64 0, .int .i64 0, .int .i64 0, .int .i64 0, .int .i64 0, .int .i64 0, .int .i64 0, .int .i64 0, .int .i64 0, .int .i64 0, .int .i64 0] 385)).setCells w1.heap.size 0 arr.toList)).size := bl1.lt
  clear hth
  generalize (w1.alloc (.cells #[.int .i64 0, .int .i64 0, .int .i64 0, .int .i64 0, .int .i64 0, .int .i64 0, .int .i64 0, .int .i64 0, .int .i64 0, .int .i64 0, .int .i64 0, .int .i64 0, .int .i64 0, .int .i64 0, .int .i64 0, .int .i64 0] 385)).setCells w1.heap.size 0 arr.toList = w2 at *
  go_wp2_with (refine wpList_load_row rfl 385 (.tmp 3) rfl w1.heap.size (by rfl) _ arr (0, 0) _ bl1 Tryz.underlying385 rfl HINF.out ?_)
  refine (weight_any w2 arr f HC.out HF.out).mono ?_
  rintro e w3 ⟨rfl, hb3⟩
  have bl3 := bl1.step hb3
  have bel3 : Below w.heap.size w w3 := bel_step hb3 bel1.size bel1
  have c1 := bl3.cell 1
  rw [HC.out.2 1 (by omega)] at c1
  generalize f 1 = y at *
  generalize wnF f 16 = wn at *
  generalize wsF f 16 = ws at *
  clear C hb1 bl1 bel1
  cases hgood : goodB ls
  · rw [hgood] at HCH
    go_wp2_with fail
    go_ret
    refine ⟨ret_int ?_, bel3⟩
    rw [HCH.out]
    simp
  · rw [hgood] at HCH
    go_wp2_with fail
    all_goals
      go_ret
      refine ⟨ret_int ?_, bel3⟩
      rw [HCH.out]
      go_light
      simp only [true_and]
      first | (rw [if_pos (by omega)]; done) | (rw [if_neg (by omega)]; done) | skip
    all_goals
      simp only [bne_iff_ne, ne_eq, bne_eq_false_iff_eq] at *
      first | (rw [if_pos (by omega)]; done) | (rw [if_neg (by omega)]; done)
end Go.Proofs.YtmgjgkdbagbleaaGreatDoor.Canon
namespace Go.Proofs.YtmgjgkdbagbleaaGreatDoor.Huff
def bit (bs : List Bool) (i : Nat) : Nat := if bs.getD i false then 1 else 0
def byteAt (bs : List Bool) (k : Nat) : Nat :=
  bit bs (8 * k) * 128 + bit bs (8 * k + 1) * 64 + bit bs (8 * k + 2) * 32 + bit bs (8 * k + 3) * 16 + bit bs (8 * k + 4) * 8 + bit bs (8 * k + 5) * 4 + bit bs (8 * k + 6) * 2 + bit bs (8 * k + 7)
def bytesOf (bs : List Bool) : List Nat := (List.range ((bs.length + 7) / 8)).map (byteAt bs)
theorem bytesOf_length (bs : List Bool) : (bytesOf bs).length = (bs.length + 7) / 8 := by simp [bytesOf]
theorem bit_le (bs : List Bool) (i : Nat) : bit bs i ≤ 1 := by unfold bit; split <;> omega
theorem byteAt_le (bs : List Bool) (k : Nat) : byteAt bs k ≤ 255 := by
  unfold byteAt
  have h0 := bit_le bs (8 * k)
  have h1 := bit_le bs (8 * k + 1)
  have h2 := bit_le bs (8 * k + 2)
  have h3 := bit_le bs (8 * k + 3)
  have h4 := bit_le bs (8 * k + 4)
  have h5 := bit_le bs (8 * k + 5)
  have h6 := bit_le bs (8 * k + 6)
  have h7 := bit_le bs (8 * k + 7)
  omega
theorem bit_out {bs : List Bool} {i : Nat} (h : bs.length ≤ i) : bit bs i = 0 := by
  unfold bit
  simp [List.getD_eq_getElem?_getD, List.getElem?_eq_none h]
theorem bit_snoc_lt {bs : List Bool} {b : Bool} {i : Nat} (h : i ≠ bs.length) : bit (bs ++ [b]) i = bit bs i := by
  unfold bit
  by_cases hlt : i < bs.length
  · simp [List.getD_eq_getElem?_getD, List.getElem?_append_left hlt]
  · simp [List.getD_eq_getElem?_getD, List.getElem?_eq_none (show (bs ++ [b]).length ≤ i by simp; omega), List.getElem?_eq_none (show bs.length ≤ i by omega)]
theorem bit_snoc_eq (bs : List Bool) (b : Bool) : bit (bs ++ [b]) bs.length = if b then 1 else 0 := by
  unfold bit
  simp [List.getD_eq_getElem?_getD]
theorem byteAt_other {bs : List Bool} {b : Bool} {k : Nat} (h : k ≠ bs.length / 8) : byteAt (bs ++ [b]) k = byteAt bs k := by
  unfold byteAt
  rw [bit_snoc_lt (by omega), bit_snoc_lt (by omega), bit_snoc_lt (by omega), bit_snoc_lt (by omega), bit_snoc_lt (by omega), bit_snoc_lt (by omega), bit_snoc_lt (by omega), bit_snoc_lt (by omega)]
theorem byteAt_zero {bs : List Bool} {k : Nat} (h : bs.length ≤ 8 * k) : byteAt bs k = 0 := by
  unfold byteAt
  rw [bit_out (by omega), bit_out (by omega), bit_out (by omega), bit_out (by omega), bit_out (by omega), bit_out (by omega), bit_out (by omega), bit_out (by omega)]
theorem byteAt_low (bs : List Bool) : 2 ^ (8 - bs.length % 8) ∣ byteAt bs (bs.length / 8) := by
  obtain ⟨q, r, hr, hl⟩ : ∃ q r, r < 8 ∧ bs.length = 8 * q + r := ⟨bs.length / 8, bs.length % 8, by omega, by omega⟩
  have e1 : bs.length / 8 = q := by omega
  have e2 : bs.length % 8 = r := by omega
  rw [e1, e2]
  have ho : ∀ i, r ≤ i → bit bs (8 * q + i) = 0 := fun i hi => bit_out (by omega)
  unfold byteAt
  have h0 := ho 0
  have : r = 0 ∨ r = 1 ∨ r = 2 ∨ r = 3 ∨ r = 4 ∨ r = 5 ∨ r = 6 ∨ r = 7 := by omega
  rcases this with rfl | rfl | rfl | rfl | rfl | rfl | rfl | rfl <;>
    first
    | (simp only [ho 1 (by omega), ho 2 (by omega), ho 3 (by omega), ho 4 (by omega), ho 5 (by omega), ho 6 (by omega), ho 7 (by omega)]; have := h0 (by omega); simp at this; simp [this]; done)
    | (rw [ho 7 (by omega)]; (try rw [ho 6 (by omega)]); (try rw [ho 5 (by omega)]); (try rw [ho 4 (by omega)]); (try rw [ho 3 (by omega)]); (try rw [ho 2 (by omega)]); (try rw [ho 1 (by omega)]); omega)
theorem byteAt_snoc (bs : List Bool) (b : Bool) : byteAt (bs ++ [b]) (bs.length / 8) = byteAt bs (bs.length / 8) + (if b then 1 else 0) * 2 ^ (7 - bs.length % 8) := by
  obtain ⟨q, r, hr, hl⟩ : ∃ q r, r < 8 ∧ bs.length = 8 * q + r := ⟨bs.length / 8, bs.length % 8, by omega, by omega⟩
  have e1 : bs.length / 8 = q := by omega
  have e2 : bs.length % 8 = r := by omega
  rw [e1, e2]
  have hn : ∀ i, i ≠ r → bit (bs ++ [b]) (8 * q + i) = bit bs (8 * q + i) := fun i hi => bit_snoc_lt (by omega)
  have he : bit (bs ++ [b]) (8 * q + r) = if b then 1 else 0 := by rw [← hl]; exact bit_snoc_eq bs b
  have hz : bit bs (8 * q + r) = 0 := bit_out (by omega)
  have h0 := hn 0
  simp only [Nat.add_zero] at h0
  unfold byteAt
  generalize (if b then 1 else 0) = x at he ⊢
  have : r = 0 ∨ r = 1 ∨ r = 2 ∨ r = 3 ∨ r = 4 ∨ r = 5 ∨ r = 6 ∨ r = 7 := by omega
  rcases this with rfl | rfl | rfl | rfl | rfl | rfl | rfl | rfl <;> (try simp only [Nat.add_zero] at he hz) <;> simp only [he, hz] <;>
    (try rw [h0 (by omega)]) <;> (try rw [hn 1 (by omega)]) <;> (try rw [hn 2 (by omega)]) <;> (try rw [hn 3 (by omega)]) <;> (try rw [hn 4 (by omega)]) <;> (try rw [hn 5 (by omega)]) <;> (try rw [hn 6 (by omega)]) <;> (try rw [hn 7 (by omega)]) <;> omega
theorem or_low {x y s : Nat} (hx : 2 ^ (s + 1) ∣ x) (hy : y ≤ 1) : x ||| y * 2 ^ s = x + y * 2 ^ s := by
  obtain ⟨q, rfl⟩ := hx
  have h1 : y * 2 ^ s < 2 ^ (s + 1) := by
    rw [Nat.pow_succ]
    have h2 : 0 < 2 ^ s := Nat.two_pow_pos s
    have h3 : y * 2 ^ s ≤ 1 * 2 ^ s := Nat.mul_le_mul_right _ hy
    omega
  exact (Nat.two_pow_add_eq_or_of_lt h1 q).symm
theorem byteAt_or (bs : List Bool) (b : Bool) : byteAt bs (bs.length / 8) ||| (if b then 1 else 0) * 2 ^ (7 - bs.length % 8) = byteAt (bs ++ [b]) (bs.length / 8) := by
  rw [byteAt_snoc]
  refine or_low ?_ (by split <;> omega)
  rw [show 7 - bs.length % 8 + 1 = 8 - bs.length % 8 by omega]
  exact byteAt_low bs
def roomOf (bs : List Bool) : List Nat := if bs.length % 8 = 0 then bytesOf bs ++ [0] else bytesOf bs
theorem roomOf_eq (bs : List Bool) : roomOf bs = (List.range (bs.length / 8 + 1)).map (byteAt bs) := by
  unfold roomOf
  split
  · rename_i h
    rw [List.range_succ, List.map_append, bytesOf, show (bs.length + 7) / 8 = bs.length / 8 by omega]
    simp only [List.map_cons, List.map_nil]
    rw [byteAt_zero (k := bs.length / 8) (by omega)]
  · rw [bytesOf, show (bs.length + 7) / 8 = bs.length / 8 + 1 by omega]
theorem bytesOf_snoc (bs : List Bool) (b : Bool) : bytesOf (bs ++ [b]) = (roomOf bs).set (bs.length / 8) (byteAt (bs ++ [b]) (bs.length / 8)) := by
  rw [roomOf_eq, bytesOf, List.length_append, List.length_singleton, show (bs.length + 1 + 7) / 8 = bs.length / 8 + 1 by omega]
  apply List.ext_getElem
  · simp
  · intro i h1 h2
    rw [List.getElem_set]
    simp only [List.getElem_map, List.getElem_range]
    split
    · rename_i e; rw [e]
    · rename_i e; exact byteAt_other (fun e2 => e e2.symm)
end Go.Proofs.YtmgjgkdbagbleaaGreatDoor.Huff
namespace Go.Proofs.YtmgjgkdbagbleaaGreatDoor.Huff
open Go.Proofs.YtmgjgkdbagbleaaGreatDoor.Canon
def msb (x n k : Nat) : List Bool := (List.range k).map fun j => decide (x / 2 ^ (n - 1 - j) % 2 = 1)
theorem msb_length (x n k : Nat) : (msb x n k).length = k := by simp [msb]
theorem msb_zero (x n : Nat) : msb x n 0 = [] := rfl
theorem msb_succ (x n k : Nat) : msb x n (k + 1) = msb x n k ++ [decide (x / 2 ^ (n - 1 - k) % 2 = 1)] := by
  simp [msb, List.range_succ]
def word (ls : List Nat) (s : Nat) : List Bool := msb (code ls s) (ls.getD s 0) (ls.getD s 0)
theorem word_length (ls : List Nat) (s : Nat) : (word ls s).length = ls.getD s 0 := msb_length _ _ _
def accB (bs : List Bool) (i : Nat) : Nat → Nat
  | 0 => 0
  | m + 1 => 2 * accB bs i m + bit bs (i + m)
theorem accB_lt (bs : List Bool) (i : Nat) : ∀ m, accB bs i m < 2 ^ m
  | 0 => by simp [accB]
  | m + 1 => by
    have h1 := accB_lt bs i m
    have h2 := bit_le bs (i + m)
    rw [accB, Nat.pow_succ]
    omega
theorem fst_wsum (ls : List Nat) : ∀ l, l ≤ 15 → (fst ls l + cn ls l) * 2 ^ (15 - l) = wsum ls (l + 1)
  | 0, _ => by simp [fst, cn, wsum]
  | l + 1, h => by
    have h1 := fst_wsum ls l (by omega)
    have e : 15 - l = (15 - (l + 1)) + 1 := by omega
    rw [wsum, ← h1, fst, e, Nat.pow_succ, Nat.add_mul]
    congr 1
    rw [Nat.mul_comm 2, Nat.mul_assoc, Nat.mul_comm 2]
theorem fst_wsum' (ls : List Nat) (l : Nat) (h : l ≤ 15) : fst ls l * 2 ^ (15 - l) = wsum ls l := by
  have h1 := fst_wsum ls l h
  rw [wsum, Nat.add_mul] at h1
  omega
theorem wsum_mono (ls : List Nat) {a : Nat} : ∀ {b : Nat}, a ≤ b → wsum ls a ≤ wsum ls b
  | 0, h => by
    obtain rfl : a = 0 := by omega
    exact Nat.le_refl _
  | b + 1, h => by
    by_cases e : a = b + 1
    · subst e; exact Nat.le_refl _
    · have := wsum_mono ls (a := a) (b := b) (by omega)
      rw [wsum]
      omega
theorem ok_parts {ls : List Nat} (h : okB ls = true) : ls.length ≤ 300 ∧ (∀ x ∈ ls, x ≤ 15) ∧ wsum ls 16 ≤ 32768 := by
  unfold okB at h
  simp only [Bool.and_eq_true, Bool.or_eq_true, decide_eq_true_eq, List.all_eq_true] at h
  obtain ⟨⟨h1, h2⟩, h3⟩ := h
  refine ⟨h1, h2, ?_⟩
  have hk := wsum_kraft ls h2
  have hu := wnum_used ls h2
  rcases h3 with (h3 | ⟨h3, h4⟩) | h3
  · rw [h3] at hu
    simp only [wnum] at hu
    simp only [wsum]
    have e0 : cn ls 0 = 0 := by simp [cn]
    have e : ∀ l, l < 16 → cn ls l = 0 := by
      intro l hl
      have : l = 0 ∨ l = 1 ∨ l = 2 ∨ l = 3 ∨ l = 4 ∨ l = 5 ∨ l = 6 ∨ l = 7 ∨ l = 8 ∨ l = 9 ∨ l = 10 ∨ l = 11 ∨ l = 12 ∨ l = 13 ∨ l = 14 ∨ l = 15 := by omega
      rcases this with rfl | rfl | rfl | rfl | rfl | rfl | rfl | rfl | rfl | rfl | rfl | rfl | rfl | rfl | rfl | rfl <;> omega
    simp [e]
  · have e1 : cn ls 1 = 1 := by unfold cn; rw [if_neg (by omega), h4]
    rw [h3] at hu
    simp only [wnum] at hu
    simp only [wsum]
    have e : ∀ l, l < 16 → l ≠ 1 → cn ls l = 0 := by
      intro l hl hl1
      have : l = 0 ∨ l = 1 ∨ l = 2 ∨ l = 3 ∨ l = 4 ∨ l = 5 ∨ l = 6 ∨ l = 7 ∨ l = 8 ∨ l = 9 ∨ l = 10 ∨ l = 11 ∨ l = 12 ∨ l = 13 ∨ l = 14 ∨ l = 15 := by omega
      rcases this with rfl | rfl | rfl | rfl | rfl | rfl | rfl | rfl | rfl | rfl | rfl | rfl | rfl | rfl | rfl | rfl <;> omega
    simp [e, e1]
  · omega
theorem cnt_take_lt {ls : List Nat} {s x : Nat} (hx : ls[s]? = some x) : cnt (ls.take s) x + 1 ≤ cnt ls x := by
  have h1 : cnt (ls.take (s + 1)) x = cnt (ls.take s) x + 1 := by rw [take_snoc hx, cnt_snoc, if_pos rfl]
  have h2 : cnt (ls.take (s + 1)) x ≤ cnt ls x := by
    unfold cnt
    conv => rhs; rw [← List.take_append_drop (s + 1) ls, List.countP_append]
    omega
  omega
theorem code_of {ls : List Nat} {s x : Nat} (hx : ls[s]? = some x) (h0 : x ≠ 0) : code ls s = fst ls x + cnt (ls.take s) x := by
  unfold code
  simp [List.getD_eq_getElem?_getD, hx, h0]
theorem code_in {ls : List Nat} {s x : Nat} (hx : ls[s]? = some x) (h0 : x ≠ 0) (h15 : x ≤ 15) :
    wsum ls x ≤ code ls s * 2 ^ (15 - x) ∧ (code ls s + 1) * 2 ^ (15 - x) ≤ wsum ls (x + 1) := by
  have h1 := code_of hx h0
  have h2 := cnt_take_lt hx
  constructor
  · rw [← fst_wsum' ls x h15]
    exact Nat.mul_le_mul_right _ (by omega)
  · rw [← fst_wsum ls x h15]
    refine Nat.mul_le_mul_right _ ?_
    unfold cn
    rw [if_neg h0]
    omega
theorem code_lt {ls : List Nat} (hok : okB ls = true) {s x : Nat} (hx : ls[s]? = some x) (h0 : x ≠ 0) : code ls s < 2 ^ x := by
  obtain ⟨_, h2, h3⟩ := ok_parts hok
  have h15 := h2 x (List.mem_of_getElem? hx)
  have h4 := (code_in hx h0 h15).2
  have h5 := wsum_mono ls (show x + 1 ≤ 16 by omega)
  have h6 : (code ls s + 1) * 2 ^ (15 - x) ≤ 2 ^ x * 2 ^ (15 - x) := by
    rw [← Nat.pow_add, show x + (15 - x) = 15 by omega]
    omega
  exact Nat.le_of_mul_le_mul_right h6 (Nat.two_pow_pos _)
theorem one_bit (y : Nat) : ((if decide (y % 2 = 1) = true then 1 else 0 : Nat) : Int) = ((y % 2 : Nat) : Int) := by
  rcases Nat.mod_two_eq_zero_or_one y with h | h <;> simp [h]
end Go.Proofs.YtmgjgkdbagbleaaGreatDoor.Huff
namespace Go.Proofs.YtmgjgkdbagbleaaGreatDoor.Huff
open Go.Proofs.YtmgjgkdbagbleaaGreatDoor.Canon
def symsOf (ls : List Nat) (l : Nat) : List Nat := (List.range ls.length).filter fun s => decide (ls.getD s 0 = l)
theorem symsOf_nil (l : Nat) : symsOf [] l = [] := rfl
theorem symsOf_snoc (ls : List Nat) (x l : Nat) : symsOf (ls ++ [x]) l = symsOf ls l ++ if x = l then [ls.length] else [] := by
  unfold symsOf
  rw [List.length_append, List.length_singleton, List.range_succ, List.filter_append]
  congr 1
  · apply List.filter_congr
    intro s hs
    have hs := List.mem_range.1 hs
    simp [List.getD_eq_getElem?_getD, List.getElem?_append_left hs]
  · by_cases h : x = l <;> simp [List.getD_eq_getElem?_getD, h]
theorem snoc_ind {α : Type} {p : List α → Prop} (h0 : p []) (h1 : ∀ l x, p l → p (l ++ [x])) : ∀ l, p l := by
  intro l
  have : ∀ r : List α, p r.reverse := by
    intro r
    induction r with
    | nil => exact h0
    | cons x r ih => rw [List.reverse_cons]; exact h1 _ _ ih
  have h := this l.reverse
  rwa [List.reverse_reverse] at h
theorem symsOf_length (l : Nat) : ∀ ls : List Nat, (symsOf ls l).length = cnt ls l := by
  apply snoc_ind
  · rfl
  · intro ls x ih
    rw [symsOf_snoc, cnt_snoc, List.length_append, ih]
    split <;> rfl
theorem symsOf_get {l : Nat} : ∀ (ls : List Nat) (k s : Nat), (symsOf ls l)[k]? = some s → ls[s]? = some l ∧ cnt (ls.take s) l = k := by
  apply snoc_ind (p := fun ls => ∀ (k s : Nat), (symsOf ls l)[k]? = some s → ls[s]? = some l ∧ cnt (ls.take s) l = k)
  · intro k s h; simp [symsOf_nil] at h
  · intro ls x ih k s h
    rw [symsOf_snoc, List.getElem?_append] at h
    split at h
    · obtain ⟨h1, h2⟩ := ih k s h
      have hs := (List.getElem?_eq_some_iff.1 h1).1
      rw [List.getElem?_append_left hs, List.take_append_of_le_length (by omega)]
      exact ⟨h1, h2⟩
    · rename_i hk
      by_cases hx : x = l
      · subst hx
        rw [if_pos rfl] at h
        have h3 := (List.getElem?_eq_some_iff.1 h).1
        simp only [List.length_singleton] at h3
        have h4 : k = (symsOf ls x).length := by omega
        rw [h4, Nat.sub_self, List.getElem?_cons_zero] at h
        injection h with h
        subst h
        refine ⟨by simp, ?_⟩
        rw [List.take_left, h4, symsOf_length]
      · rw [if_neg hx] at h
        simp at h
theorem cnt_take_mono (ls : List Nat) (l : Nat) {a b : Nat} (h : a ≤ b) : cnt (ls.take a) l ≤ cnt (ls.take b) l := by
  have : ls.take a = (ls.take b).take a := by rw [List.take_take, Nat.min_eq_left h]
  rw [this]
  unfold cnt
  conv => rhs; rw [← List.take_append_drop a (ls.take b), List.countP_append]
  omega
theorem nth_one {ls : List Nat} {l s t : Nat} (hs : ls[s]? = some l) (ht : ls[t]? = some l) (h : cnt (ls.take s) l = cnt (ls.take t) l) : s = t := by
  have h1 : cnt (ls.take (s + 1)) l = cnt (ls.take s) l + 1 := by rw [take_snoc hs, cnt_snoc, if_pos rfl]
  have h2 : cnt (ls.take (t + 1)) l = cnt (ls.take t) l + 1 := by rw [take_snoc ht, cnt_snoc, if_pos rfl]
  by_cases h3 : s < t
  · have := cnt_take_mono ls l (show s + 1 ≤ t by omega); omega
  · by_cases h4 : t < s
    · have := cnt_take_mono ls l (show t + 1 ≤ s by omega); omega
    · omega
theorem nth_there {ls : List Nat} {l k : Nat} (h : k < cnt ls l) : ∃ s, (symsOf ls l)[k]? = some s ∧ ls[s]? = some l ∧ cnt (ls.take s) l = k := by
  have h1 : k < (symsOf ls l).length := by rw [symsOf_length]; exact h
  exact ⟨_, List.getElem?_eq_getElem h1, symsOf_get ls k _ (List.getElem?_eq_getElem h1)⟩
def hit (ls : List Nat) (X there s : Nat) : Bool := decide (ls.getD s 0 ≠ 0 ∧ ls.getD s 0 ≤ there ∧ X / 2 ^ (15 - ls.getD s 0) = code ls s)
def begin_ (ls : List Nat) (X there s : Nat) : Bool := decide (there < ls.getD s 0 ∧ X / 2 ^ (15 - there) = code ls s / 2 ^ (ls.getD s 0 - there))
def getR (ls : List Nat) (X there : Nat) : Int × Int × Nat :=
  match (List.range ls.length).find? (hit ls X there) with
  | some s => (s, 0, ls.getD s 0)
  | none => if (List.range ls.length).any (begin_ ls X there) then (-1, 1, 0) else (-1, 7, 0)
theorem hit_iff {ls : List Nat} {X there s : Nat} : hit ls X there s = true ↔ ∃ x, ls[s]? = some x ∧ x ≠ 0 ∧ x ≤ there ∧ X / 2 ^ (15 - x) = code ls s := by
  unfold hit
  rw [decide_eq_true_eq]
  constructor
  · rintro ⟨h1, h2, h3⟩
    have hs : s < ls.length := by
      rcases Nat.lt_or_ge s ls.length with h | h
      · exact h
      · rw [List.getD_eq_getElem?_getD, List.getElem?_eq_none h] at h1; simp at h1
    have e : ls.getD s 0 = ls[s] := by simp [List.getD_eq_getElem?_getD, hs]
    rw [e] at h1 h2 h3
    exact ⟨_, List.getElem?_eq_getElem hs, h1, h2, h3⟩
  · rintro ⟨x, h0, h1, h2, h3⟩
    have e : ls.getD s 0 = x := by simp [List.getD_eq_getElem?_getD, h0]
    rw [e]
    exact ⟨h1, h2, h3⟩
theorem div_in {X c d : Nat} (hd : 0 < d) (h : X / d = c) : c * d ≤ X ∧ X < (c + 1) * d := by
  subst h
  exact ⟨Nat.div_mul_le_self X d, by rw [Nat.add_mul, Nat.one_mul]; exact Nat.lt_div_mul_add hd⟩
theorem hit_one {ls : List Nat} (hok : okB ls = true) {X a b s t : Nat} (hs : hit ls X a s = true) (ht : hit ls X b t = true) : s = t := by
  obtain ⟨x, hx, hx0, _, hxX⟩ := hit_iff.1 hs
  obtain ⟨y, hy, hy0, _, hyX⟩ := hit_iff.1 ht
  obtain ⟨_, hsm, _⟩ := ok_parts hok
  have hx15 := hsm x (List.mem_of_getElem? hx)
  have hy15 := hsm y (List.mem_of_getElem? hy)
  have h1 := div_in (Nat.two_pow_pos _) hxX
  have h2 := div_in (Nat.two_pow_pos _) hyX
  have h3 := code_in hx hx0 hx15
  have h4 := code_in hy hy0 hy15
  by_cases hlt : x < y
  · have := wsum_mono ls (show x + 1 ≤ y by omega); omega
  · by_cases hgt : y < x
    · have := wsum_mono ls (show y + 1 ≤ x by omega); omega
    · obtain rfl : x = y := by omega
      have e : code ls s = code ls t := by rw [← hxX, ← hyX]
      rw [code_of hx hx0, code_of hy hy0] at e
      exact nth_one hx hy (by omega)
theorem getR_hit {ls : List Nat} (hok : okB ls = true) {X there s x : Nat} (hx : ls[s]? = some x) (h : hit ls X there s = true) : getR ls X there = ((s : Int), 0, x) := by
  have hs : s < ls.length := (List.getElem?_eq_some_iff.1 hx).1
  unfold getR
  have : (List.range ls.length).find? (hit ls X there) = some s := by
    cases hf : (List.range ls.length).find? (hit ls X there) with
    | none =>
      have := List.find?_eq_none.1 hf s (List.mem_range.2 hs)
      rw [h] at this
      exact absurd rfl this
    | some t =>
      rw [hit_one hok h (List.find?_some hf)]
  rw [this]
  simp [List.getD_eq_getElem?_getD, hx]
theorem getR_none {ls : List Nat} {X there : Nat} (h : ∀ s, hit ls X there s = false) : getR ls X there = if (List.range ls.length).any (begin_ ls X there) then (-1, 1, 0) else (-1, 7, 0) := by
  unfold getR
  have : (List.range ls.length).find? (hit ls X there) = none := List.find?_eq_none.2 (fun s _ => by rw [h s]; simp)
  rw [this]
theorem find_hit {ls : List Nat} {X l : Nat} (h0 : l ≠ 0) {k : Nat} (hk : k < cn ls l) (hX : X / 2 ^ (15 - l) = fst ls l + k) :
    ∃ s, (symsOf ls l)[k]? = some s ∧ ls[s]? = some l ∧ hit ls X l s = true := by
  have hk' : k < cnt ls l := by unfold cn at hk; rwa [if_neg h0] at hk
  obtain ⟨s, h1, h2, h3⟩ := nth_there hk'
  exact ⟨s, h1, h2, hit_iff.2 ⟨l, h2, h0, Nat.le_refl _, by rw [hX, code_of h2 h0, h3]⟩⟩
theorem find_miss {ls : List Nat} {X l s : Nat} (h0 : l ≠ 0) (hs : ls[s]? = some l) (h : X / 2 ^ (15 - l) = code ls s) : fst ls l ≤ X / 2 ^ (15 - l) ∧ X / 2 ^ (15 - l) < fst ls l + cn ls l := by
  have h1 := code_of hs h0
  have h2 := cnt_take_lt hs
  unfold cn
  rw [if_neg h0]
  omega
theorem hit_mono {ls : List Nat} {X a b s : Nat} (h : a ≤ b) (hs : hit ls X a s = true) : hit ls X b s = true := by
  obtain ⟨x, h1, h2, h3, h4⟩ := hit_iff.1 hs
  exact hit_iff.2 ⟨x, h1, h2, by omega, h4⟩
theorem no_hit_succ {ls : List Nat} {X l : Nat} (h : ∀ s, hit ls X l s = false) (h1 : X / 2 ^ (15 - (l + 1)) < fst ls (l + 1) ∨ fst ls (l + 1) + cn ls (l + 1) ≤ X / 2 ^ (15 - (l + 1))) : ∀ s, hit ls X (l + 1) s = false := by
  intro s
  cases hh : hit ls X (l + 1) s
  · rfl
  · obtain ⟨x, hx, hx0, hxl, hxX⟩ := hit_iff.1 hh
    by_cases e : x = l + 1
    · subst e
      have := find_miss (by omega) hx hxX
      omega
    · have := h s
      rw [hit_iff.2 ⟨x, hx, hx0, by omega, hxX⟩] at this
      cases this
theorem no_hit_zero (ls : List Nat) (X : Nat) : ∀ s, hit ls X 0 s = false := by
  intro s
  cases hh : hit ls X 0 s
  · rfl
  · obtain ⟨x, _, hx0, hxl, _⟩ := hit_iff.1 hh
    omega
theorem begin_iff {ls : List Nat} {X there s : Nat} : begin_ ls X there s = true ↔ ∃ x, ls[s]? = some x ∧ there < x ∧ X / 2 ^ (15 - there) = code ls s / 2 ^ (x - there) := by
  unfold begin_
  rw [decide_eq_true_eq]
  constructor
  · rintro ⟨h2, h3⟩
    have hs : s < ls.length := by
      rcases Nat.lt_or_ge s ls.length with h | h
      · exact h
      · rw [List.getD_eq_getElem?_getD, List.getElem?_eq_none h] at h2; simp at h2
    have e : ls.getD s 0 = ls[s] := by simp [List.getD_eq_getElem?_getD, hs]
    rw [e] at h2 h3
    exact ⟨_, List.getElem?_eq_getElem hs, h2, h3⟩
  · rintro ⟨x, h0, h2, h3⟩
    have e : ls.getD s 0 = x := by simp [List.getD_eq_getElem?_getD, h0]
    rw [e]
    exact ⟨h2, h3⟩
theorem begins_some {ls : List Nat} {x l k : Nat} (hlk : l < k) (h0 : 0 < cn ls k) (h1 : x * 2 ^ (k - l) < fst ls k + cn ls k) (h2 : fst ls k < x * 2 ^ (k - l) + 2 ^ (k - l)) :
    ∃ s, ls[s]? = some k ∧ code ls s / 2 ^ (k - l) = x := by
  have hk0 : k ≠ 0 := by omega
  obtain ⟨j, hj1, hj2⟩ : ∃ j, j < cn ls k ∧ (fst ls k + j) / 2 ^ (k - l) = x := by
    have hp := Nat.two_pow_pos (k - l)
    generalize 2 ^ (k - l) = d at *
    by_cases h : fst ls k ≤ x * d
    · refine ⟨x * d - fst ls k, by omega, ?_⟩
      rw [show fst ls k + (x * d - fst ls k) = x * d by omega]
      exact Nat.mul_div_cancel _ hp
    · refine ⟨0, h0, ?_⟩
      rw [Nat.add_zero]
      apply Nat.div_eq_of_lt_le
      · omega
      · rw [Nat.add_mul, Nat.one_mul]; omega
  have hj' : j < cnt ls k := by unfold cn at hj1; rwa [if_neg hk0] at hj1
  obtain ⟨s, _, h3, h4⟩ := nth_there hj'
  exact ⟨s, h3, by rw [code_of h3 hk0, h4, hj2]⟩
theorem begins_none {ls : List Nat} {x l k s : Nat} (hlk : l < k) (hs : ls[s]? = some k) (h : code ls s / 2 ^ (k - l) = x) :
    0 < cn ls k ∧ x * 2 ^ (k - l) < fst ls k + cn ls k ∧ fst ls k < x * 2 ^ (k - l) + 2 ^ (k - l) := by
  have hk0 : k ≠ 0 := by omega
  have h1 := code_of hs hk0
  have h2 := cnt_take_lt hs
  have h3 := div_in (Nat.two_pow_pos (k - l)) h
  have e : cn ls k = cnt ls k := by unfold cn; rw [if_neg hk0]
  rw [Nat.add_mul, Nat.one_mul] at h3
  omega
theorem accB_div (bs : List Bool) (i m : Nat) : ∀ d, accB bs i (m + d) / 2 ^ d = accB bs i m
  | 0 => by simp
  | d + 1 => by
    have h1 := bit_le bs (i + (m + d))
    rw [← Nat.add_assoc, accB, Nat.pow_succ, Nat.mul_comm (2 ^ d) 2, ← Nat.div_div_eq_div_mul]
    rw [show (2 * accB bs i (m + d) + bit bs (i + (m + d))) / 2 = accB bs i (m + d) by omega]
    exact accB_div bs i m d
theorem accB_msb (x n : Nat) (hx : x < 2 ^ n) (bs pre post : List Bool) (h : bs = pre ++ msb x n n ++ post) : ∀ m, m ≤ n → accB bs pre.length m = x / 2 ^ (n - m)
  | 0, _ => by rw [accB, Nat.sub_zero, Nat.div_eq_of_lt hx]
  | m + 1, hm => by
    rw [accB, accB_msb x n hx bs pre post h m (by omega)]
    have hb : bit bs (pre.length + m) = x / 2 ^ (n - 1 - m) % 2 := by
      unfold bit
      have hl : m < (msb x n n).length := by rw [msb_length]; omega
      have e : bs.getD (pre.length + m) false = decide (x / 2 ^ (n - 1 - m) % 2 = 1) := by
        rw [h, List.append_assoc, List.getD_eq_getElem?_getD, List.getElem?_append_right (by omega), Nat.add_sub_cancel_left, List.getElem?_append_left hl, List.getElem?_eq_getElem hl]
        simp [msb]
      rw [e]
      by_cases h1 : x / 2 ^ (n - 1 - m) % 2 = 1
      · rw [decide_eq_true h1, h1]; rfl
      · rw [decide_eq_false h1]; simp; omega
    rw [hb, show n - m = (n - 1 - m) + 1 by omega, show n - (m + 1) = n - 1 - m by omega, Nat.pow_succ, ← Nat.div_div_eq_div_mul]
    omega
end Go.Proofs.YtmgjgkdbagbleaaGreatDoor.Huff

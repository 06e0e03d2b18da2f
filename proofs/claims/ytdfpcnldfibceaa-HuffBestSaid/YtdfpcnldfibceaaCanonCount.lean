/-
  The walks of package canon's count, weight and Check.
-/
import Derived.Test.YtdfpcnldfibceaaCanonPlain
import Derived.Test.YtdfpcnldfibceaaProg
import Derived.BigQuiet
import Derived.BigGuardPart
import Derived.Deep.QuietTactic
import Derived.Deep.Light
import Derived.Laws.Rows
import Derived.Deep.MidRow
namespace Go.Proofs.Ytdfpcnldfibceaa.Canon
open Go.RowKit Go.Proofs.Ytdfpcnldfibceaa.Mem

theorem set_same {cs : Array Value} {i : Nat} {v : Value} (h : cs[i]? = some v) : cs.setIfInBounds i v = cs := by
  apply Array.ext_getElem?
  intro j
  rw [Array.getElem?_setIfInBounds]
  split
  · rename_i e
    subst e
    obtain ⟨hi, _⟩ := Array.getElem?_eq_some_iff.1 h
    rw [if_pos hi, h]
  · rfl
theorem blk_setCells {g : Nat} {t : TypeId} {cs : Array Value} : ∀ (vs : List Value) (o : Nat) (w : World), Blk w g t cs → (∀ j v, vs[j]? = some v → cs[o + j]? = some v) → Blk (w.setCells g o vs) g t cs
  | [], _, _, h, _ => h
  | v :: vs, o, w, h, hc => by
    refine blk_setCells vs (o + 1) _ ?_ (fun j u hu => by rw [show o + 1 + j = o + (j + 1) by omega]; exact hc (j + 1) u hu)
    have := h.set o v
    rwa [set_same (by simpa using hc 0 v rfl)] at this
theorem bel_setCells {B g : Nat} {a : World} (hB : B ≤ g) : ∀ (vs : List Value) (o : Nat) (w : World), Below B a w → Below B a (w.setCells g o vs)
  | [], _, _, h => h
  | _ :: vs, o, _, h => bel_setCells hB vs (o + 1) _ (bel_set (p := ⟨g, o, none⟩) hB h)
theorem there_blk {w : World} {g : Nat} {t : TypeId} {cs : Array Value} (h : Blk w g t cs) : w.there g 0 cs.size := fun j hj => by
  rw [Nat.zero_add]
  exact ⟨by rw [h.cell, Array.getElem?_eq_getElem hj]; rfl, h.frozen j⟩

theorem Cnts.one {f : Nat → Nat} {n : Nat} {arr : Array Value} (h : Cnts f n arr) : arr.all (·.oneCell') = true := by
  rw [Array.all_eq_true]
  intro i hi
  have := h.2 i (by have := h.1; omega)
  rw [Array.getElem?_eq_getElem hi] at this
  injection this with this
  rw [this]
  rfl
theorem Cnts.zero : Cnts (fun _ => 0) 16 #[.int .i64 0, .int .i64 0, .int .i64 0, .int .i64 0, .int .i64 0, .int .i64 0, .int .i64 0, .int .i64 0, .int .i64 0, .int .i64 0, .int .i64 0, .int .i64 0, .int .i64 0, .int .i64 0, .int .i64 0, .int .i64 0] := by
  refine ⟨rfl, fun l hl => ?_⟩
  have : l = 0 ∨ l = 1 ∨ l = 2 ∨ l = 3 ∨ l = 4 ∨ l = 5 ∨ l = 6 ∨ l = 7 ∨ l = 8 ∨ l = 9 ∨ l = 10 ∨ l = 11 ∨ l = 12 ∨ l = 13 ∨ l = 14 ∨ l = 15 := by omega
  rcases this with rfl | rfl | rfl | rfl | rfl | rfl | rfl | rfl | rfl | rfl | rfl | rfl | rfl | rfl | rfl | rfl <;> rfl

theorem results_cell_tmp {P : Program} {fn : Func} {p q : Tmp} {ty : TypeId} (h : fn.results = #[.cell p ty, .tmp q]) (tmps : Array Value) (w : World) (g : Nat) (t : TypeId) (cs : Array Value) (d : TypeDesc) (u : Value)
    (hp : tmps.getD p undef = .pointer (some ⟨g, 0, none⟩)) (hq : tmps.getD q undef = u) (hg : Blk w g t cs)
    (hu : P.underlying ty = some d) (hd : (match d with | .struct _ | .array _ _ => true | _ => false) = true) (hi : (P.info? ty).map (·.size) = some cs.size) :
    (results fn tmps).run P w = .ok (.tuple #[.agg cs, u]) w := by
  have hp' : tmps[p]?.getD undef = .pointer (some ⟨g, 0, none⟩) := by simpa using hp
  have hq' : tmps[q]?.getD undef = u := by simpa using hq
  simp [results, h, hp', hq', asAddr, run_loadVar_row w g t ty cs (0, 0) d hg hu hd hi]

theorem info_counts : (Try.prog.info? 198).map (·.size) = some 16 := by kernel_rfl
def goodB (ls : List Nat) : Bool := decide (ls.length ≤ 300) && ls.all (fun x => decide (x ≤ 15))
def CountPost (ls : List Nat) (w : World) (e : Ending) (w' : World) : Prop :=
  ∃ (arr : Array Value) (f : Nat → Nat), e = .returned (.tuple #[.agg arr, .bool (goodB ls)]) ∧ Cnts f 16 arr ∧ (∀ l, f l ≤ 300) ∧ (goodB ls = true → f = cn ls) ∧ Below w.heap.size w w'

/-- One cell of a row of numbers. -/
theorem num_cell {w : World} {B n : Nat} {A : Option Addr} {k : IntKind} {ls : List Nat} (h : Row w B A n 1 (numF k ls)) (hn : ls.length = n) {i : Nat} (hi : i < n) :
    ∃ b off x, A = some ⟨b, off, none⟩ ∧ b < B ∧ ls[i]? = some x ∧ w.cell? ⟨b, off + i, none⟩ = some (.int k (x : Nat)) := by
  obtain ⟨b, off, e, hb, hc⟩ := h (by omega)
  have hl : i < ls.length := by omega
  have h1 := hc i 0 hi (by omega)
  simp only [numF, Nat.mul_one, Nat.add_zero, List.getD_eq_getElem?_getD, List.getElem?_eq_getElem hl, Option.getD_some] at h1
  exact ⟨b, off, ls[i], e, hb, List.getElem?_eq_getElem hl, h1⟩

set_option maxHeartbeats 1000000 in
set_option maxRecDepth 100000 in
theorem count_any (w : World) (A : Option Addr) (n c : Nat) (ls : List Nat) (hn : ls.length = n) (hN : n ≤ 9223372036854775807) (ha : Row w w.heap.size A n 1 (numF .u8 ls)) :
    Calls Try.prog 139 #[.slice A n c] w (CountPost ls w) := by
  have HN := Lib.hid hn
  clear hn
  by_cases hbig : n ≤ 300
  · have hd : decide (300 < n) = false := by simp; omega
    go_enter Try.func139, Try.ntmps139
    go_wp2_with fail
    go_loopw [12] (fun i wr => ∃ (k : Nat) (arr : Array Value), k ≤ n ∧ i = .int .i64 k ∧ Blk wr w.heap.size 198 arr ∧ Hid (Cnts (cnt (ls.take k)) 16 arr) ∧ Hid (∀ x ∈ ls.take k, x ≤ 15) ∧ Below w.heap.size w wr) (fun i _ => n - (intOf i).toNat)
    case atStart => exact ⟨0, _, by omega, rfl, Blk.made _ _ _, Cnts.zero, fun x hx => by simp at hx, bel_alloc0 (Below.refl _ _)⟩
    case round =>
      obtain ⟨k, arr, hk, rfl, blk, hcnt, hsm, rbel⟩ := hrel
      have hinf : (Try.prog.info? 198).map (·.size) = some arr.size := by rw [hcnt.out.1]; exact info_counts
      have HI := Lib.hid hinf
      clear hinf
      have hfree := blk.frozen 0
      by_cases hlt : k < n
      · obtain ⟨b, off, x, rfl, hbb, hx, c0⟩ := num_cell (ha.below rbel) HN.out hlt
        have htk := take_snoc hx
        have HX := Lib.hid hx
        have HTK := Lib.hid htk
        clear hx htk
        by_cases h15 : 15 < x
        · have hbad : goodB ls = false := by
            unfold goodB
            have : ls.all (fun x => decide (x ≤ 15)) = false := by
              rw [List.all_eq_false]
              exact ⟨x, List.mem_of_getElem? HX.out, by simpa using h15⟩
            rw [this, Bool.and_false]
          have HB := Lib.hid hbad
          clear hbad
          go_wp2_with (first
            | (refine wpList_load_row rfl 198 (.tmp 2) rfl w.heap.size (by rfl) _ arr (0, 0) _ blk Try.underlying198 rfl HI.out ?_)
            | (refine wpList_store_mid rfl 198 (.tmp 2) _ rfl w.heap.size 0 arr (by rfl) (by rfl) (there_blk blk) HI.out hcnt.out.one ?_))
          have blk2 := blk_setCells arr.toList 0 wr blk (fun j v hv => by rw [Nat.zero_add]; simpa using hv)
          refine bodyPost_ret (results_cell_tmp rfl _ _ w.heap.size _ arr _ (.bool false) rfl rfl blk2 Try.underlying198 rfl HI.out) rfl ⟨arr, cnt (ls.take k), by rw [HB.out], hcnt.out, fun l => ?_, (fun h => by rw [HB.out] at h; cases h), bel_setCells (Nat.le_refl _) _ _ _ rbel⟩
          have h1 := cnt_le (ls.take k) l
          rw [List.length_take] at h1
          omega
        · have hget := hcnt.out.2 x (by omega)
          have c1 := blk.cell x
          rw [hget] at c1
          have f1 := blk.frozen x
          have h1 := cnt_le (ls.take k) x
          rw [List.length_take] at h1
          have hnx : Cnts (cnt (ls.take (k + 1))) 16 (arr.setIfInBounds x (.int .i64 ((cnt (ls.take k) x + 1 : Nat) : Int))) := by
            refine hcnt.out.set ?_ fun l hl => ?_
            · rw [HTK.out, cnt_snoc, if_pos rfl]
            · rw [HTK.out, cnt_snoc, if_neg (fun e => hl e.symm)]; rfl
          generalize cnt (ls.take k) x = y at *
          have HNX := Lib.hid hnx
          have hsn : ∀ z ∈ ls.take (k + 1), z ≤ 15 := by
            intro z hz
            rw [HTK.out, List.mem_append, List.mem_singleton] at hz
            rcases hz with hz | rfl
            · exact hsm.out z hz
            · omega
          have HSN := Lib.hid hsn
          clear hget hnx hsn
          have x1 : (x : Int) < 16 := by omega
          have x0 : (0 : Int) ≤ (x : Int) := by omega
          go_wp2_with fail
          go_roundw
          case rel =>
            go_light
            exact ⟨k + 1, _, by omega, by go_num, blk.set x _, HNX, HSN, bel_set (p := ⟨w.heap.size, x, none⟩) (Nat.le_refl _) rbel⟩
          case measure => go_light; simp [intOf]; omega
      · obtain rfl : k = n := by omega
        have hall : ls.take k = ls := List.take_of_length_le (by have := HN.out; omega)
        have hgood : goodB ls = true := by
          have := hsm.out
          rw [hall] at this
          unfold goodB
          rw [Bool.and_eq_true, List.all_eq_true]
          exact ⟨by have := HN.out; simp; omega, fun x hx => by simpa using this x hx⟩
        have HG := Lib.hid hgood
        have hc := hcnt.out
        rw [hall] at hc
        have h0 : Cnts (cn ls) 16 (arr.setIfInBounds 0 (.int .i64 ((0 : Nat) : Int))) := hc.set (by simp [cn]) (fun l hl => by simp [cn, hl])
        have H0 := Lib.hid h0
        have hc0 := blk.cell 0
        rw [hc.2 0 (by omega)] at hc0
        generalize cnt ls 0 = y at hc0
        have blk1 := blk.set 0 (.int .i64 0)
        have hfr1 := blk1.frozen 0
        have hinf1 : (Try.prog.info? 198).map (·.size) = some (arr.setIfInBounds 0 (.int .i64 0)).size := by rw [Array.size_setIfInBounds]; exact HI.out
        have HI1 := Lib.hid hinf1
        have HONE := Lib.hid h0.one
        clear hall hgood hc h0 hinf1
        obtain ⟨arr1, ha1⟩ : ∃ arr1, arr1 = arr.setIfInBounds 0 (.int .i64 0) := ⟨_, rfl⟩
        have H0' : Hid (Cnts (cn ls) 16 arr1) := by rw [ha1]; exact H0
        have HONE' : Hid (arr1.all (·.oneCell') = true) := by rw [ha1]; exact HONE
        rw [← ha1] at blk1 HI1
        clear H0 HONE ha1
        go_wp2_with (first
            | (refine wpList_load_row rfl 198 (.tmp 2) rfl w.heap.size (by rfl) _ arr1 (0, 0) _ blk1 Try.underlying198 rfl HI1.out ?_)
            | (refine wpList_store_mid rfl 198 (.tmp 2) _ rfl w.heap.size 0 arr1 (by rfl) (by rfl) (there_blk blk1) HI1.out HONE'.out ?_))
        have blk2 := blk_setCells arr1.toList 0 _ blk1 (fun j v hv => by rw [Nat.zero_add]; simpa using hv)
        refine bodyPost_ret (results_cell_tmp rfl _ _ w.heap.size _ arr1 _ (.bool true) rfl rfl blk2 Try.underlying198 rfl HI1.out) rfl ⟨arr1, cn ls, by rw [HG.out], H0'.out, fun l => ?_, (fun _ => rfl), bel_setCells (Nat.le_refl _) _ _ _ (bel_set (p := ⟨w.heap.size, 0, none⟩) (Nat.le_refl _) rbel)⟩
        have h1 := cn_le ls l
        have := HN.out
        omega
  · have hbad : goodB ls = false := by
      unfold goodB
      have : decide (ls.length ≤ 300) = false := by simp; have := HN.out; omega
      rw [this, Bool.false_and]
    have HB := Lib.hid hbad
    clear hbad
    have blk : Blk (w.alloc (.cells #[.int .i64 0, .int .i64 0, .int .i64 0, .int .i64 0, .int .i64 0, .int .i64 0, .int .i64 0, .int .i64 0, .int .i64 0, .int .i64 0, .int .i64 0, .int .i64 0, .int .i64 0, .int .i64 0, .int .i64 0, .int .i64 0] 198)) w.heap.size 198 _ := Blk.made _ _ _
    go_enter Try.func139, Try.ntmps139
    go_wp2_with (first
        | (refine wpList_load_row rfl 198 (.tmp 2) rfl w.heap.size (by rfl) _ _ (0, 0) _ blk Try.underlying198 rfl info_counts ?_)
        | (refine wpList_store_mid rfl 198 (.tmp 2) _ rfl w.heap.size 0 _ (by rfl) (by rfl) (there_blk blk) info_counts Cnts.zero.one ?_))
    have blk2 := blk_setCells _ 0 _ blk (fun j v hv => by rw [Nat.zero_add]; simpa using hv)
    refine bodyPost_ret (results_cell_tmp rfl _ _ w.heap.size _ _ _ (.bool false) rfl rfl blk2 Try.underlying198 rfl info_counts) rfl ⟨_, _, by rw [HB.out], Cnts.zero, fun l => by omega, (fun h => by rw [HB.out] at h; cases h), bel_setCells (Nat.le_refl _) _ _ _ (bel_alloc0 (Below.refl _ _))⟩
end Go.Proofs.Ytdfpcnldfibceaa.Canon

/-
  The walk of lens.Lens.
-/
import Derived.Test.YtdfpcnldfibceaaLensRows
namespace Go.Proofs.Ytdfpcnldfibceaa.Lens
open Go.RowKit Go.Proofs.Ytdfpcnldfibceaa.Mem Go.Proofs.Ytdfpcnldfibceaa.Own Go.Proofs.Ytdfpcnldfibceaa.Srt Go.Proofs.Ytdfpcnldfibceaa.Canon

def LensPost (ks : List Nat) (limit : Int) (w : World) (e : Ending) (w' : World) : Prop :=
  ∃ A c, e = .returned (.tuple #[.slice A (lensO ks limit).length c, .int .i64 (lensE ks limit)]) ∧ Row w' w'.heap.size A (lensO ks limit).length 1 (numF .u8 (lensO ks limit)) ∧ Wf A (lensO ks limit).length c ∧ Below w.heap.size w w'
theorem lensPost_no {ks : List Nat} {limit : Int} {w w' : World} {e : Ending} {x : Int} (hx : x ≠ 0) (h : lensE ks limit = x) (he : e = .returned (.tuple #[.slice none 0 0, .int .i64 x])) (hb : Below w.heap.size w w') : LensPost ks limit w e w' := by
  have h0 : lensO ks limit = [] := by unfold lensO; rw [if_neg (by rw [h]; exact hx)]
  refine ⟨none, 0, ?_, ?_, ?_, hb⟩
  · rw [he, h0, h]; rfl
  · rw [h0]; exact Row.zero
  · rw [h0]; exact Wf.nil

set_option maxRecDepth 100000 in
theorem lens_bad (w : World) (A : Option Addr) (n c : Nat) (ks : List Nat) (limit : Int) (hn : ks.length = n) (hN : n ≤ 9223372036854775807) (hl1 : -9223372036854775808 ≤ limit) (hl2 : limit ≤ 9223372036854775807) (h : n > 300 ∨ limit < 1 ∨ limit > 15) :
    Calls Try.prog 69 #[.slice A n c, .int .i64 limit] w (LensPost ks limit w) := by
  have hE : Hid (lensE ks limit = 13) := by show _ = _; unfold lensE; rw [hn, if_pos h]
  clear hn
  by_cases h1 : 300 < n
  · clear h
    go_enter Try.func69, Try.ntmps69
    go_wp2_with fail
    go_ret2
    exact lensPost_no (by decide) hE.out rfl (Below.refl _ _)
  · have g1 : decide ((300 : Int) < (n : Int)) = false := by simp; omega
    have g2 : decide (300 < n) = false := by simp; omega
    by_cases h2 : limit < 1
    · clear h
      have g3 : decide (limit < 1) = true := by simpa using h2
      go_enter Try.func69, Try.ntmps69
      go_wp2_with fail
      go_ret2
      exact lensPost_no (by decide) hE.out rfl (Below.refl _ _)
    · have h3 : 15 < limit := by omega
      have g3 : decide (limit < 1) = false := by simp; omega
      have g4 : decide (15 < limit) = true := by simpa using h3
      clear h
      go_enter Try.func69, Try.ntmps69
      go_wp2_with fail
      go_ret2
      exact lensPost_no (by decide) hE.out rfl (Below.refl _ _)

theorem pow_wrap {L : Nat} (h : L ≤ 15) : wrap64 ((2 : Int) ^ L) = ((2 ^ L : Nat) : Int) := by
  have h1 : 2 ^ L ≤ 2 ^ 15 := Nat.pow_le_pow_right (by omega) h
  have e : (2 : Int) ^ L = ((2 ^ L : Nat) : Int) := by simp
  rw [e]
  generalize 2 ^ L = p at *
  have h2 : p ≤ 32768 := h1
  unfold wrap64
  omega
set_option maxRecDepth 100000 in
theorem lens_limit (w : World) (A : Option Addr) (n c L : Nat) (ks : List Nat) (hn : ks.length = n) (hN : n ≤ 300) (hl1 : 1 ≤ L) (hl2 : L ≤ 15) (h : 2 ^ L < (order (kOf ks) n).length) (ha : Row w w.heap.size A n 1 (numF .u32 ks)) :
    Calls Try.prog 69 #[.slice A n c, .int .i64 L] w (LensPost ks L w) := by
  have hE : Hid (lensE ks L = 6) := by
    show _ = _
    unfold lensE
    rw [if_neg (by omega), if_pos]
    rw [hn]; exact h
  have C := used_any w A n c ks hn (by omega) ha
  unfold UsedPost at C
  have HN := Lib.hid hn
  rw [hn] at C
  have C := Lib.hid C
  have g1 : decide ((300 : Int) < (n : Int)) = false := by simp; omega
  have g2 : decide (300 < n) = false := by simp; omega
  have g3 : decide ((L : Int) < 1) = false := by simp; omega
  have g4 : decide ((15 : Int) < (L : Int)) = false := by simp; omega
  have g5 : decide (L < 1) = false := by simp; omega
  have g6 : decide (15 < L) = false := by simp; omega
  clear ha hn
  have t1 : decide (wrap64 ((2 : Int) ^ L) < ((order (kOf ks) n).length : Int)) = true := by rw [pow_wrap hl2]; exact decide_eq_true (Int.ofNat_lt.2 h)
  generalize order (kOf ks) n = S at *
  go_enter Try.func69, Try.ntmps69
  go_wp2_with fail
  refine C.out.mono ?_
  rintro e w1 ⟨A1, c1, rfl, hrow, hb1⟩
  go_wp2_with fail
  go_ret2
  exact lensPost_no (by decide) hE.out rfl hb1

theorem info_u8' : (Try.prog.info? 5).map (fun i => (i.zero, i.size, i.bytes)) = some (some (.int .u8 0), 1, 1) := by kernel_rfl
theorem make_u8 (n : Nat) (hn : n ≤ 8388608) (w : World) : (Instr.makeSlice 56 (.int .i64 (n : Int)) (.int .i64 (n : Int))).run Try.prog w =
    .ok (.slice (some ⟨w.heap.size, 0, none⟩) n n) (w.alloc (.cells (madeCells #[.int .u8 0] n) 5)) := by
  obtain ⟨i0, hi, hz0, hz1, hz2⟩ := info_parts info_u8'
  have h := run_make (P := Try.prog) w 56 5 i0 (.int .u8 0) Try.underlying56 hi hz0 .i64 .i64 (n : Int) (n : Int) (by omega) (Int.le_refl _) (by rw [hz2]; omega) (by omega)
  simp only [Int.toNat_natCast] at h
  simpa [hz1, Value.cells] using h

/-- A block of bytes, by places. -/
def U8s (f : Nat → Nat) (n : Nat) (cs : Array Value) : Prop := cs.size = n ∧ ∀ i, i < n → cs[i]? = some (.int .u8 (f i : Nat))
theorem U8s.made (n : Nat) : U8s (fun _ => 0) n (madeCells #[.int .u8 0] n) := by
  refine ⟨size_madeCells _ _, fun i hi => ?_⟩
  simp [madeCells, hi, Nat.mod_one]
theorem U8s.set {f g : Nat → Nat} {n : Nat} {cs : Array Value} (h : U8s f n cs) {i v : Nat} (hv : g i = v) (ho : ∀ j, j ≠ i → g j = f j) : U8s g n (cs.setIfInBounds i (.int .u8 (v : Nat))) := by
  refine ⟨by simpa using h.1, fun j hj => ?_⟩
  have hs := h.1
  rw [Array.getElem?_setIfInBounds]
  by_cases e : i = j
  · subst e
    rw [if_pos rfl, if_pos (by omega), hv]
  · rw [if_neg e, h.2 j hj, ho j (Ne.symm e)]
theorem U8s.row {w : World} {g n : Nat} {f : Nat → Nat} {cs : Array Value} {l : List Nat} (h : U8s f n cs) (hb : Blk w g 5 cs) (hl : l = (List.range n).map f) : Row w w.heap.size (some ⟨g, 0, none⟩) n 1 (numF .u8 l) := by
  subst hl
  refine Row.of_blk hb hb.lt fun i j hi hj => ?_
  obtain rfl : j = 0 := by omega
  rw [Nat.mul_one, Nat.add_zero, h.2 i hi]
  unfold numF
  rw [List.getD_eq_getElem?_getD, List.getElem?_map, List.getElem?_range hi]
  rfl
theorem lensPost_yes {ks : List Nat} {limit : Int} {w w' : World} {e : Ending} {g n : Nat} {f : Nat → Nat} {cs : Array Value} (hE : lensE ks limit = 0) (hl : lensV ks limit.toNat = (List.range n).map f)
    (h : U8s f n cs) (hb : Blk w' g 5 cs) (he : e = .returned (.tuple #[.slice (some ⟨g, 0, none⟩) n n, .int .i64 0])) (hbel : Below w.heap.size w w') : LensPost ks limit w e w' := by
  have h0 : lensO ks limit = (List.range n).map f := by unfold lensO; rw [if_pos hE, hl]
  have hlen : (lensO ks limit).length = n := by rw [h0]; simp
  refine ⟨some ⟨g, 0, none⟩, n, ?_, ?_, ?_, hbel⟩
  · rw [he, hE, hlen]
  · rw [hlen]; exact h.row hb h0
  · rw [hlen]; exact Wf.some (Nat.le_refl _)

set_option maxRecDepth 100000 in
theorem lens_few (w : World) (A : Option Addr) (n c L : Nat) (ks : List Nat) (hn : ks.length = n) (hN : n ≤ 300) (hl1 : 1 ≤ L) (hl2 : L ≤ 15) (h : (order (kOf ks) n).length < 2) (ha : Row w w.heap.size A n 1 (numF .u32 ks)) :
    Calls Try.prog 69 #[.slice A n c, .int .i64 L] w (LensPost ks L w) := by
  have hp2 : 2 ≤ 2 ^ L := by have := Nat.pow_le_pow_right (n := 2) (by omega) hl1; simpa using this
  have hE : Hid (lensE ks L = 0) := by
    show _ = _
    unfold lensE
    rw [if_neg (by omega), if_neg]
    rw [hn]
    show ¬ 2 ^ L < (order (kOf ks) n).length
    omega
  have C := used_any w A n c ks hn (by omega) ha
  unfold UsedPost at C
  have HN := Lib.hid hn
  rw [hn] at C
  have C := Lib.hid C
  have g1 : decide ((300 : Int) < (n : Int)) = false := by simp; omega
  have g2 : decide (300 < n) = false := by simp; omega
  have g3 : decide ((L : Int) < 1) = false := by simp; omega
  have g4 : decide ((15 : Int) < (L : Int)) = false := by simp; omega
  have g5 : decide (L < 1) = false := by simp; omega
  have g6 : decide (15 < L) = false := by simp; omega
  have t1 : decide (wrap64 ((2 : Int) ^ L) < ((order (kOf ks) n).length : Int)) = false := by rw [pow_wrap hl2]; exact decide_eq_false (by rw [Int.ofNat_lt]; omega)
  have hV : Hid (lensV ks L = (List.range n).map fun s => if s ∈ order (kOf ks) n then 1 else 0) := by
    show _ = _
    unfold lensV
    rw [hn]
    show (if (order (kOf ks) n).length < 2 then _ else _) = _
    rw [if_pos h]
  have HS : Hid (∀ s ∈ order (kOf ks) n, s < n) := fun s hs => (order_mem.1 hs).1
  have hmk := make_u8 n (by omega)
  clear ha hn
  generalize order (kOf ks) n = S at *
  have h2 : S.length = 0 ∨ S.length = 1 := by omega
  rcases h2 with h2 | h2
  · obtain rfl : S = [] := List.eq_nil_of_length_eq_zero h2
    clear h2 h
    simp only [List.length_nil] at C
    have t2 : decide (wrap64 ((2 : Int) ^ L) < 0) = false := t1
    clear t1
    go_enter Try.func69, Try.ntmps69
    go_wp2_with fail
    refine C.out.mono ?_
    rintro e w1 ⟨A1, c1, rfl, hrow, hb1⟩
    go_wp2_with fail
    go_ret2
    refine lensPost_yes hE.out (by rw [Int.toNat_natCast, hV.out]) (cs := madeCells #[.int .u8 0] n) ?_ (Blk.made _ _ _) rfl (bel_alloc hb1.size hb1)
    have := U8s.made n
    simpa using this
  · obtain ⟨s, rfl⟩ : ∃ s, S = [s] := List.length_eq_one_iff.1 h2
    clear h2 h
    simp only [List.length_cons, List.length_nil, Nat.zero_add] at C
    have t2 : decide (wrap64 ((2 : Int) ^ L) < 1) = false := t1
    clear t1
    have hs := HS.out s (by simp)
    go_enter Try.func69, Try.ntmps69
    go_wp2_with fail
    refine C.out.mono ?_
    rintro e w1 ⟨A1, c1, rfl, hrow, hb1⟩
    obtain ⟨b, off, x, rfl, hbb, hx, c0⟩ := num_cell hrow (by simp) (i := 0) (by omega)
    simp at hx
    subst hx
    have hz1 := hb1.size
    have bl := Blk.made w1 5 (madeCells #[.int .u8 0] n)
    have hU := U8s.made n
    have d0 := bl.cell s
    rw [hU.2 s hs] at d0
    have f0 := bl.frozen s
    have HU : Hid (U8s (fun i => if i ∈ [s] then 1 else 0) n ((madeCells #[.int .u8 0] n).setIfInBounds s (.int .u8 1))) := hU.set (v := 1) (by simp) (fun j hj => by simp [hj])
    have hbl := hb1
    clear hU
    have x2 : (0 : Int) ≤ (s : Int) := by omega
    have x3 : (s : Int) < (n : Int) := by omega
    rw [Nat.add_zero] at c0
    go_wp2_with fail
    go_ret2
    exact lensPost_yes hE.out (by rw [Int.toNat_natCast, hV.out]) HU.out (Blk.made _ _ _) rfl (bel_alloc hz1 hbl)

/-- The rows that were made: each is a row of items of its own. -/
def RowsAt (w : World) (base : Nat) (k : Nat → Nat) (S : List Nat) (lf v : Value) (vals : List Value) : Prop :=
  OwnIt w base lf (lv k S) ∧ w.ownsRow base 167 1 v vals.length vals ∧ ∀ i x, vals[i]? = some x → OwnIt w base x (rowN (lv k S) i)
theorem OwnIt.kept {w w' : World} {base : Nat} {v : Value} {X : List It} (h : OwnIt w base v X) (hk : ∀ g, v.ownBlock = some g → w'.heap[g]? = w.heap[g]?) : OwnIt w' base v X := own_kept h hk
theorem RowsAt.kept {w w' : World} {base : Nat} {k : Nat → Nat} {S : List Nat} {lf v : Value} {vals : List Value} (h : RowsAt w base k S lf v vals) (hk : ∀ g, base ≤ g → g < w.heap.size → w'.heap[g]? = w.heap[g]?) : RowsAt w' base k S lf v vals := by
  obtain ⟨h1, h2, h3⟩ := h
  refine ⟨h1.kept (fun g hg => ?_), own_kept h2 (fun g hg => ?_), fun i x hx => (h3 i x hx).kept (fun g hg => ?_)⟩
  · have := World.ownsRow.lt h1 g hg
    exact hk g this.1 this.2
  · have := World.ownsRow.lt h2 g hg
    exact hk g this.1 this.2
  · have := World.ownsRow.lt (h3 i x hx) g hg
    exact hk g this.1 this.2
/-- One more row is appended. -/
theorem RowsAt.push {w w' : World} {base : Nat} {k : Nat → Nat} {S : List Nat} {lf v v' x : Value} {vals : List Value} (h : RowsAt w base k S lf v vals) (hx : OwnIt w base x (rowN (lv k S) vals.length))
    (ho : w'.ownsRow base 167 1 v' (vals.length + 1) (vals ++ [x])) (hg : w.grownBy w' v.ownBlock) : RowsAt w' base k S lf v' (vals ++ [x]) := by
  obtain ⟨h1, h2, h3⟩ := h
  have keep : ∀ (y : Value) (X : List It), OwnIt w base y X → OwnIt w' base y X := fun y X hy => hy.kept fun g hgy => by
    refine hg.block g (World.ownsRow.lt hy g hgy).2 ?_
    rcases own_apart hy h2 (by decide) with h0 | h0
    · rw [h0] at hgy; cases hgy
    · rw [← hgy]; exact h0
  refine ⟨keep _ _ h1, by simpa using ho, fun i y hy => ?_⟩
  rw [List.getElem?_append] at hy
  split at hy
  · exact keep y _ (h3 i y hy)
  · have hi : i - vals.length < [x].length := (List.getElem?_eq_some_iff.1 hy).1
    have hm := List.mem_of_getElem? hy
    simp at hm hi
    subst hm
    have : i = vals.length := by omega
    rw [this]
    exact keep y _ hx
theorem RowsAt.at_ {w : World} {base : Nat} {k : Nat → Nat} {S : List Nat} {lf v : Value} {vals : List Value} (h : RowsAt w base k S lf v vals) {i : Nat} (hi : i < vals.length) :
    ∃ g cap A c, v = .slice (some ⟨g, 0, none⟩) vals.length cap ∧ base ≤ g ∧ g < w.heap.size ∧ w.cell? ⟨g, i, none⟩ = some (.slice A (rowN (lv k S) i).length c) ∧ OwnIt w base (.slice A (rowN (lv k S) i).length c) (rowN (lv k S) i) := by
  obtain ⟨h1, h2, h3⟩ := h
  have hv : vals[i]? = some vals[i] := List.getElem?_eq_getElem hi
  have ho := h3 i _ hv
  obtain ⟨A, c, hs⟩ := ho.shape
  rcases h2.2 with ⟨_, h0⟩ | ⟨g, cap, cur, hv', hb, hh, hnc, hcap, hcs, htake⟩
  · omega
  · refine ⟨g, cap, A, c, hv', hb, Blk.lt hh, ?_, by rw [hs] at ho; exact ho⟩
    have h4 : vals[i]? = cur[i]? := by
      have h5 : (cur.toList.take (vals.length * 1))[i]? = vals[i]? := by rw [htake]
      rw [← h5, List.getElem?_take, if_pos (by omega)]; simp
    rw [Blk.cell (t := 167) hh, ← h4, hv, hs]
/-- Where the cells of a row of items lie. -/
theorem OwnIt.cells {w : World} {base c : Nat} {A : Option Addr} {X : List It} (h : OwnIt w base (.slice A X.length c) X) (h0 : 0 < X.length) :
    ∃ g, A = some ⟨g, 0, none⟩ ∧ base ≤ g ∧ g < w.heap.size ∧ X.length ≤ c ∧ c ≤ maxLen ∧ ∀ i x, X[i]? = some x → w.cell? ⟨g, i * 2, none⟩ = some (.int .u64 (x.1 : Nat)) ∧ w.cell? ⟨g, i * 2 + 1, none⟩ = some (.bool (leafB x)) := by
  rcases h.2 with ⟨_, h1⟩ | ⟨g, cap, cur, hv, hb, hh, hnc, hcap, hcs, htake⟩
  · omega
  · injection hv with e1 e2 e3
    subst e1 e3
    refine ⟨g, rfl, hb, Blk.lt hh, hnc, hcap, fun i x hx => ?_⟩
    have hi : i < X.length := (List.getElem?_eq_some_iff.1 hx).1
    have hg : X.getD i (0, []) = x := by rw [List.getD_eq_getElem?_getD, hx]; rfl
    have key : ∀ j, j < 2 → w.cell? ⟨g, i * 2 + j, none⟩ = some (itF X i j) := fun j hj => by
      rw [Blk.cell (t := 172) hh, ← itL_get X i j hi hj, ← htake, List.getElem?_take, if_pos (by omega)]
      simp
    have k0 := key 0 (by omega)
    have k1 := key 1 (by omega)
    rw [itF, if_pos rfl, hg] at k0
    rw [itF, if_neg (by omega), hg] at k1
    exact ⟨k0, k1⟩

/-- What is still to be counted. -/
def restR (k : Nat → Nat) (S : List Nat) : Nat → Nat → Nat → Nat
  | 0, _, _ => 0
  | R + 1, t, s => lenR k S R t s
def takeOk (k : Nat → Nat) (S : List Nat) (R t : Nat) : Prop := R = 0 ∨ t ≤ (rowN (lv k S) (R - 1)).length
theorem restR_step {k : Nat → Nat} {S : List Nat} (R t s : Nat) (ht : t ≤ (rowN (lv k S) R).length) :
    restR k S (R + 1) t s = (if s ∈ S.take (nl (rowN (lv k S) R) t) then 1 else 0) + restR k S R (2 * (t - nl (rowN (lv k S) R) t)) s ∧ takeOk k S R (2 * (t - nl (rowN (lv k S) R) t)) := by
  rcases R with _ | R
  · exact ⟨rfl, .inl rfl⟩
  · obtain ⟨n, q, h1, h2, h3, h4, _⟩ := row_take R t ht
    refine ⟨rfl, .inr ?_⟩
    rw [h4, Nat.add_sub_cancel]
    rw [show t - n = q by omega]
    exact h3
/-- The lengths as far as they are counted. -/
def CntAt (k : Nat → Nat) (S : List Nat) (L : Nat) (R t : Nat) (f : Nat → Nat) : Prop := ∀ s, lenR k S (L - 1) (2 * S.length - 2) s = f s + restR k S R t s
def InAt (S : List Nat) (f0 f : Nat → Nat) (m : Nat) : Prop := ∀ s, f s = f0 s + if s ∈ S.take m then 1 else 0
theorem InAt.step {S : List Nat} {f0 f : Nat → Nat} {m s : Nat} (hS : S.Nodup) (h : InAt S f0 f m) (hs : S[m]? = some s) : InAt S f0 (fun j => if j = s then f s + 1 else f j) (m + 1) ∧ f s = f0 s := by
  have hlt : m < S.length := (List.getElem?_eq_some_iff.1 hs).1
  have htk : S.take (m + 1) = S.take m ++ [s] := by rw [List.take_add_one, hs]; rfl
  have hn : s ∉ S.take m := by
    intro hm
    have h2 := hS.sublist (List.take_sublist (m + 1) S)
    rw [htk, List.nodup_append] at h2
    exact h2.2.2 s hm s (by simp) rfl
  have h1 := h s
  rw [if_neg hn] at h1
  refine ⟨fun j => ?_, by omega⟩
  show (if j = s then f s + 1 else f j) = _
  rw [htk]
  by_cases e : j = s
  · subst e
    rw [if_pos rfl, if_pos (by simp)]; omega
  · rw [if_neg e, h j]
    simp [e]
theorem nl_le (X : List It) (i : Nat) : nl X i ≤ i := by
  unfold nl
  have := List.countP_le_length (p := leafB) (l := X.take i)
  rw [List.length_take] at this
  omega

theorem run_head {P : Program} {t e : TypeId} {s : Nat} (ht : P.underlying t = some (.slice e)) (hs : ∀ w, (sizeOf e).run P w = .ok s w) (A : Option Addr) (len cap : Nat) (kh : IntKind) (h : Int) (m : Nat) (hh : h = m) (hm : m ≤ cap) (w : World) :
    (Instr.slice t (.slice A len cap) none (some (.int kh h)) none).run P w = .ok (.slice (cutA A 0 cap s) m cap) w := by
  subst hh
  have he : P.elem t = e := by simp [Program.elem, ht]
  rw [run_slice_h w t A len cap (by rw [he]; exact ht) kh (m : Int) (by omega) (by omega), he, hs]
  rfl
end Go.Proofs.Ytdfpcnldfibceaa.Lens

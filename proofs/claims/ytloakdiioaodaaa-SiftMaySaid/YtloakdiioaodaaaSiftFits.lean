/-
  The walks of (sift.run).fits and the closures that it hands back.
-/
import Derived.Test.YtloakdiioaodaaaSiftRuns
import Derived.Test.YtloakdiioaodaaaShelf
import Derived.Lib.MinMax
import Derived.Laws.EntriesVeiled
namespace Go.Proofs.Ytloakdiioaodaaa.Sift
open Go.RowKit Go.Proofs.Ytloakdiioaodaaa.Mem Go.Proofs.Ytloakdiioaodaaa.Own

/-- The library's number that strings.Contains looks at is there. -/
def MLen (w : World) : Prop := ∃ m, w.cell? ⟨0, 0, none⟩ = some (.int .i64 m)
theorem MLen.drew {w : World} (h : MLen w) : MLen w.drew := h
theorem cell_lt {w : World} {p : Addr} {v : Value} (h : w.cell? p = some v) : p.block < w.heap.size := by
  rcases Nat.lt_or_ge p.block w.heap.size with k | k
  · exact k
  · have : w.heap[p.block]? = none := Array.getElem?_eq_none k
    unfold World.cell? at h
    simp only [this] at h
    cases h
theorem MLen.below {w w' : World} (h : MLen w) (hb : Below w.heap.size w w') : MLen w' := by
  obtain ⟨m, hm⟩ := h
  exact ⟨m, (hb.cell (cell_lt hm)).trans hm⟩

set_option maxRecDepth 100000 in
theorem fcut_any (w : World) (x : List UInt8) : Calls Try.prog 51 #[.string (bs x)] w fun e w' => e = .returned (.bool (x.length == 24)) ∧ w' = w := by
  have hz := bs_size x
  have e1 : (((bs x).size : Int) == 24) = (x.length == 24) := by rw [hz, Bool.eq_iff_iff]; simp; omega
  clear hz
  go_enter Try.func51, Try.ntmps51
  go_wp2_with fail
  go_ret
  exact ⟨rfl, rfl⟩
set_option maxRecDepth 100000 in
theorem fmid_any (w : World) (rb cb : Nat) (s x : List UInt8) (a b : Bool) (hx : x.length ≤ 100000) (hm : MLen w) (hr : Blk w rb 45 #[.string (bs s), .bool a, .bool b]) (hc : Blk w cb 47 #[.func (.func 51) #[] #[]]) :
    Calls Try.prog 52 #[.string (bs x), .pointer (some ⟨rb, 0, none⟩), .pointer (some ⟨cb, 0, none⟩)] w fun e w' => e = .returned (.bool (Lib.contains x s || x.length == 24)) ∧ w' = w := by
  obtain ⟨m, hm⟩ := hm
  have D := Try.strings_Contains (bs x) (bs s) m w (by rw [bs_size]; omega) hm
  rw [bs_list, bs_list] at D
  have D2 := fcut_any w x
  have c0 := hr.cell 0
  have c1 := hc.cell 0
  simp only [List.getElem?_toArray, List.getElem?_cons_zero] at c0 c1
  generalize Lib.contains x s = p at *
  have D := Lib.hid D
  have D2 := Lib.hid D2
  clear hm hr hc
  cases p
  · go_enter Try.func52, Try.ntmps52
    go_wp2_with fail
    refine D.out.mono ?_
    rintro e w1 ⟨rfl, rfl⟩
    go_wp2_with fail
    refine D2.out.mono ?_
    rintro e w1 ⟨rfl, rfl⟩
    go_wp2_with fail
    go_ret
    exact ⟨by simp, rfl⟩
  · go_enter Try.func52, Try.ntmps52
    go_wp2_with fail
    refine D.out.mono ?_
    rintro e w1 ⟨rfl, rfl⟩
    go_wp2_with fail
    go_ret
    exact ⟨by simp, rfl⟩
set_option maxRecDepth 100000 in
theorem fend_any (w : World) (rb cb : Nat) (s x : List UInt8) (a b : Bool) (hx : x.length ≤ 100000) (hr : Blk w rb 45 #[.string (bs s), .bool a, .bool b]) (hc : Blk w cb 47 #[.func (.func 51) #[] #[]]) :
    Calls Try.prog 53 #[.string (bs x), .pointer (some ⟨rb, 0, none⟩), .pointer (some ⟨cb, 0, none⟩)] w fun e w' => e = .returned (.bool (s.isSuffixOf x || x.length == 24)) ∧ w' = w := by
  have D := Try.strings_HasSuffix (bs x) (bs s) w (by rw [bs_size]; omega)
  rw [bs_list, bs_list] at D
  unfold Lib.hasSuffix at D
  have D2 := fcut_any w x
  have c0 := hr.cell 0
  have c1 := hc.cell 0
  simp only [List.getElem?_toArray, List.getElem?_cons_zero] at c0 c1
  generalize s.isSuffixOf x = p at *
  have D := Lib.hid D
  have D2 := Lib.hid D2
  clear hr hc
  cases p
  · go_enter Try.func53, Try.ntmps53
    go_wp2_with fail
    refine D.out.mono ?_
    rintro e w1 ⟨rfl, rfl⟩
    go_wp2_with fail
    refine D2.out.mono ?_
    rintro e w1 ⟨rfl, rfl⟩
    go_wp2_with fail
    go_ret
    exact ⟨by simp, rfl⟩
  · go_enter Try.func53, Try.ntmps53
    go_wp2_with fail
    refine D.out.mono ?_
    rintro e w1 ⟨rfl, rfl⟩
    go_wp2_with fail
    go_ret
    exact ⟨by simp, rfl⟩
set_option maxRecDepth 100000 in
theorem fhead_any (w : World) (hb : Nat) (s x : List UInt8) (hh : Blk w hb 9 #[.string (bs s)]) :
    Calls Try.prog 55 #[.string (bs x), .pointer (some ⟨hb, 0, none⟩)] w fun e w' => e = .returned (.bool (s.isPrefixOf x)) ∧ w' = w := by
  have D := Try.strings_HasPrefix (bs x) (bs s) w
  rw [bs_list, bs_list] at D
  unfold Lib.hasPrefix at D
  have c0 := hh.cell 0
  simp only [List.getElem?_toArray, List.getElem?_cons_zero] at c0
  have D := Lib.hid D
  clear hh
  go_enter Try.func55, Try.ntmps55
  go_wp2_with fail
  refine D.out.mono ?_
  rintro e w1 ⟨rfl, rfl⟩
  go_wp2_with fail
  go_ret
  exact ⟨rfl, rfl⟩
set_option maxRecDepth 100000 in
theorem feq_any (w : World) (hb : Nat) (s x : List UInt8) (hh : Blk w hb 9 #[.string (bs s)]) :
    Calls Try.prog 57 #[.string (bs x), .pointer (some ⟨hb, 0, none⟩)] w fun e w' => e = .returned (.bool (x == s)) ∧ w' = w := by
  have c0 := hh.cell 0
  simp only [List.getElem?_toArray, List.getElem?_cons_zero] at c0
  have e1 : ((bs x).toList == (bs s).toList) = (x == s) := by rw [ByteArray.toList_eq, ByteArray.toList_eq, bs_list, bs_list]
  clear hh
  go_enter Try.func57, Try.ntmps57
  go_wp2_with fail
  go_ret
  exact ⟨rfl, rfl⟩

/-- A function value that tells of each word whether p has it, in this world. -/
def Tells (w : World) (fv : Value) (p : List UInt8 → Bool) : Prop :=
  ∃ K caps, fv = .func (.func K) #[] caps ∧ (∀ args wx, (callFunc K args).run Try.prog wx = .ok (.enter K args) wx) ∧
    ∀ x : List UInt8, x.length ≤ 100000 → Calls Try.prog K (#[.string (bs x)] ++ caps) w fun e w' => e = .returned (.bool (p x)) ∧ w' = w
def FitsPost (r : Run) (w : World) (e : Ending) (w' : World) : Prop := ∃ fv, e = .returned fv ∧ Tells w' fv (fitsB r) ∧ Below w.heap.size w w'

theorem bs_ext {a : ByteArray} {l : List UInt8} (h : a.data.toList = l) : a = bs l := ByteArray.ext (Array.ext' h)
theorem bs_extract (l : List UInt8) (a b : Nat) : (bs l).extract a b = bs ((l.drop a).take (b - a)) := bs_ext (extract_list (bs l) a b)
set_option maxRecDepth 100000 in
theorem sfits_any (w : World) (r : Run) (hl : r.s.length ≤ 100000) (hm : MLen w) : Calls Try.prog 23 #[.agg #[.string (bs r.s), .bool r.ahead, .bool r.behind]] w (FitsPost r w) := by
  obtain ⟨s, ahead, behind⟩ := r
  simp only at hl ⊢
  have hz := bs_size s
  obtain ⟨M, hM⟩ : ∃ M, M = min (bs s).size 24 := ⟨_, rfl⟩
  have hmn : min ((bs s).size : Int) 24 = (M : Int) := by omega
  have htk : s.take M = s.take 24 := by
    rw [hM, hz]
    by_cases h24 : s.length ≤ 24
    · rw [Nat.min_eq_left h24, List.take_of_length_le (by omega), List.take_of_length_le h24]
    · rw [Nat.min_eq_right (by omega)]
  have ks : ∀ wx, (Instr.slice 9 (.string (bs s)) none (some (.int .i64 (M : Int))) none).run Try.prog wx = .ok (.string (bs (s.take 24))) wx := by
    intro wx
    rw [run_slice_string_h wx (t := 9) (s := bs s) (ht := Try.underlying9) .i64 (M : Int) (by omega) (by omega), bs_extract]
    simp only [Int.toNat_natCast, List.drop_zero, Nat.sub_zero, htk]
  have HM := Lib.hid hm
  have hm3 : ∀ o1 o2 o3, MLen (((w.alloc o1).alloc o2).alloc o3) := fun o1 o2 o3 => MLen.below hm (bel_alloc (by simp; omega) (bel_alloc (by simp) (bel_alloc0 (Below.refl _ _))))
  have HM3 := Lib.hid hm3
  clear hM htk hz hm hm3
  unfold FitsPost
  cases ahead <;> cases behind
  · go_enter Try.func23, Try.ntmps23
    go_wp2_with fail
    go_ret
    refine ⟨_, rfl, ⟨_, _, rfl, ?_, ?_⟩, by (repeat (first | (with_reducible exact Below.refl _ _) | (with_reducible assumption) | (with_reducible refine Below.drew ?_) | (with_reducible refine below_drewN ?_ _) | ((with_reducible refine bel_set ?_ ?_); (focus (first | (simp; done) | (simp; omega) | omega | (simp at *; omega)))) | (with_reducible refine bel_alloc0 ?_) | (with_reducible refine bel_step0 (by assumption) ?_) | ((with_reducible refine bel_alloc ?_ ?_); (focus (first | (simp; done) | (simp; omega) | omega | (simp at *; omega)))) | ((with_reducible refine bel_step (by assumption) ?_ ?_); (focus (first | (simp; done) | (simp; omega) | omega | (simp at *; omega))))))⟩
    · intro args wx; simp [callFunc, go_sem, Try.func57]; rfl
    · intro x hx
      exact feq_any _ _ _ x (((Blk.made_at _ _ _ (by simp)).alloc _))
  · go_enter Try.func23, Try.ntmps23
    go_wp2_with fail
    go_ret
    refine ⟨_, rfl, ⟨_, _, rfl, ?_, ?_⟩, by (repeat (first | (with_reducible exact Below.refl _ _) | (with_reducible assumption) | (with_reducible refine Below.drew ?_) | (with_reducible refine below_drewN ?_ _) | ((with_reducible refine bel_set ?_ ?_); (focus (first | (simp; done) | (simp; omega) | omega | (simp at *; omega)))) | (with_reducible refine bel_alloc0 ?_) | (with_reducible refine bel_step0 (by assumption) ?_) | ((with_reducible refine bel_alloc ?_ ?_); (focus (first | (simp; done) | (simp; omega) | omega | (simp at *; omega)))) | ((with_reducible refine bel_step (by assumption) ?_ ?_); (focus (first | (simp; done) | (simp; omega) | omega | (simp at *; omega))))))⟩
    · intro args wx; simp [callFunc, go_sem, Try.func55]; rfl
    · intro x hx
      exact fhead_any _ _ _ x (((Blk.made_at _ _ _ (by simp)).alloc _))
  · go_enter Try.func23, Try.ntmps23
    go_wp2_with fail
    go_ret
    refine ⟨_, rfl, ⟨_, _, rfl, ?_, ?_⟩, by (repeat (first | (with_reducible exact Below.refl _ _) | (with_reducible assumption) | (with_reducible refine Below.drew ?_) | (with_reducible refine below_drewN ?_ _) | ((with_reducible refine bel_set ?_ ?_); (focus (first | (simp; done) | (simp; omega) | omega | (simp at *; omega)))) | (with_reducible refine bel_alloc0 ?_) | (with_reducible refine bel_step0 (by assumption) ?_) | ((with_reducible refine bel_alloc ?_ ?_); (focus (first | (simp; done) | (simp; omega) | omega | (simp at *; omega)))) | ((with_reducible refine bel_step (by assumption) ?_ ?_); (focus (first | (simp; done) | (simp; omega) | omega | (simp at *; omega))))))⟩
    · intro args wx; simp [callFunc, go_sem, Try.func53]; rfl
    · intro x hx
      exact fend_any _ _ _ s x _ _ hx (((Blk.made _ _ _).alloc _).alloc _) (Blk.made_at _ _ _ (by simp))
  · go_enter Try.func23, Try.ntmps23
    go_wp2_with fail
    go_ret
    refine ⟨_, rfl, ⟨_, _, rfl, ?_, ?_⟩, by (repeat (first | (with_reducible exact Below.refl _ _) | (with_reducible assumption) | (with_reducible refine Below.drew ?_) | (with_reducible refine below_drewN ?_ _) | ((with_reducible refine bel_set ?_ ?_); (focus (first | (simp; done) | (simp; omega) | omega | (simp at *; omega)))) | (with_reducible refine bel_alloc0 ?_) | (with_reducible refine bel_step0 (by assumption) ?_) | ((with_reducible refine bel_alloc ?_ ?_); (focus (first | (simp; done) | (simp; omega) | omega | (simp at *; omega)))) | ((with_reducible refine bel_step (by assumption) ?_ ?_); (focus (first | (simp; done) | (simp; omega) | omega | (simp at *; omega))))))⟩
    · intro args wx; simp [callFunc, go_sem, Try.func52]; rfl
    · intro x hx
      exact fmid_any _ _ _ s x _ _ hx (HM3.out _ _ _) (((Blk.made _ _ _).alloc _).alloc _) (Blk.made_at _ _ _ (by simp))
end Go.Proofs.Ytloakdiioaodaaa.Sift

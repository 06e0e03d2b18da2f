/-
  The walks of package diff's Cost and of the reference's Great of edits.
-/
import Derived.Test.YtdfpcnldfibceaaDiffMay
namespace Go.Proofs.Ytdfpcnldfibceaa.Diff
open Go.RowKit Go.Proofs.Ytdfpcnldfibceaa.Mem Go.Proofs.Ytdfpcnldfibceaa.Recs

theorem bad_may {es : List Ed} (h : badB es = false) : allMay es := by
  intro e he
  unfold badB at h
  rw [List.any_eq_false] at h
  have := h e he
  simpa using this
theorem costL_snoc (es : List Ed) (e : Ed) : costL (es ++ [e]) = costL es + costE e := by
  rw [costL_append]
  simp [costL]
/-- Bounds of edits whose costs are added. -/
def Mild (es : List Ed) : Prop := es.length ≤ 100000 ∧ ∀ e ∈ es, (0 ≤ e.n ∧ e.n ≤ 100000) ∧ e.recs.length ≤ 100000

set_option maxHeartbeats 400000 in
theorem cost_any (w : World) (A : Option Addr) (n c : Nat) (es : List Ed) (hn : es.length = n) (hmay : badB es = false) (hmild : Mild es) (ha : EdRow w w.heap.size A es) :
    Calls Try.prog 43 #[.slice A n c] w fun e w' => e = .returned (.tuple #[.int .i64 (costL es), .int .i64 0]) ∧ Below w.heap.size w w' := by
  have hN := hmild.1
  rw [hn] at hN
  have HN := Lib.hid hn
  clear hn
  go_enter Try.func43, Try.ntmps43
  go_wp2_with fail
  go_loopw [4, 9] (fun s i wr => ∃ (k : Nat) (x : Int), k ≤ n ∧ i = .int .i64 k ∧ s = .int .i64 x ∧ Hid (x = costL (es.take k)) ∧ 0 ≤ x ∧ x ≤ 200000 * (k : Int) ∧ Below w.heap.size w wr) (fun _ i _ => n - (intOf i).toNat)
  case atStart => exact ⟨0, 0, by omega, rfl, rfl, rfl, by omega, by omega, Below.refl _ _⟩
  case round =>
    obtain ⟨k, x, hk, rfl, rfl, hx, hx0, hx1, rbel⟩ := hrel
    by_cases hlt : k < n
    · obtain ⟨b, off, rfl, hbb, hc⟩ := (ha.below rbel) (by have := HN.out; omega)
      have hi : k < es.length := by have := HN.out; omega
      have hge : es[k]? = some es[k] := List.getElem?_eq_getElem hi
      obtain ⟨R, rc, c0, c1, c2, hr, _⟩ := hc k _ hge
      have hsn : costL (es.take (k + 1)) = costL (es.take k) + costE es[k] := by
        rw [List.take_succ_eq_append_getElem hi, costL_snoc]
      have hmem : es[k] ∈ es := List.getElem_mem hi
      have hm := bad_may hmay _ hmem
      have hb := hmild.2 _ hmem
      generalize es[k] = e at *
      rw [← mayB_E] at hm
      clear hc hge hmem hi
      obtain ⟨kind, num, recs⟩ := e
      simp only [costE] at c0 c1 c2 hsn hm hb
      obtain ⟨q, hq⟩ : ∃ q, q = recs.length := ⟨_, rfl⟩
      rw [← hq] at c2 hsn hm hb
      clear hq hr
      have hbel := rbel.size
      have hz := World.block_lt_of_cell? _ _ c0
      have i1 : (0 : Int) ≤ (k : Int) := by omega
      have i2 : (k : Int) < (n : Int) := by omega
      have C := Lib.hid (fun wx => may_any kind num R q rc wx)
      rw [hm] at C
      have HSN := Lib.hid hsn
      clear hsn hm
      by_cases hk2 : kind = 2
      · subst hk2
        go_wp2_with fail
        refine (C.out _).mono ?_
        rintro e w1 ⟨rfl, hb1⟩
        have z1 := hb1.size; (try simp at z1)
        have k1 : ∀ o, w1.cell? ⟨wr.heap.size, o, none⟩ = _ := fun o => hb1.cell (p := ⟨_, o, none⟩) (by first | (simp; done) | (simp; omega) | omega); have k1l : wr.heap.size < w1.heap.size := Nat.lt_of_lt_of_le (by first | (simp; done) | (simp; omega) | omega) hb1.size
        go_wp2_with fail
        go_roundw
        case rel =>
          go_light
          refine ⟨k + 1, x + num + q, by omega, by go_num, rfl, ?_, by omega, by omega, ?_⟩
          · show x + num + q = costL (es.take (k + 1))
            rw [HSN.out, ← hx.out]
            simp
            omega
          · (repeat (first | (with_reducible exact Below.refl _ _) | (with_reducible assumption) | (with_reducible refine Below.drew ?_) | (with_reducible refine below_drewN ?_ _) | ((with_reducible refine bel_set ?_ ?_); (focus (first | (simp; done) | (simp; omega) | omega | (simp at *; omega)))) | (with_reducible refine bel_alloc0 ?_) | (with_reducible refine bel_step0 (by assumption) ?_) | ((with_reducible refine bel_alloc ?_ ?_); (focus (first | (simp; done) | (simp; omega) | omega | (simp at *; omega)))) | ((with_reducible refine bel_step (by assumption) ?_ ?_); (focus (first | (simp; done) | (simp; omega) | omega | (simp at *; omega))))))
        case measure => go_light; simp [intOf]; omega
      · have hkb : (kind == 2) = false := by simpa using hk2
        go_wp2_with fail
        refine (C.out _).mono ?_
        rintro e w1 ⟨rfl, hb1⟩
        have z1 := hb1.size; (try simp at z1)
        have k1 : ∀ o, w1.cell? ⟨wr.heap.size, o, none⟩ = _ := fun o => hb1.cell (p := ⟨_, o, none⟩) (by first | (simp; done) | (simp; omega) | omega); have k1l : wr.heap.size < w1.heap.size := Nat.lt_of_lt_of_le (by first | (simp; done) | (simp; omega) | omega) hb1.size
        go_wp2_with fail
        go_roundw
        case rel =>
          go_light
          refine ⟨k + 1, x + q, by omega, by go_num, rfl, ?_, by omega, by omega, ?_⟩
          · show x + q = costL (es.take (k + 1))
            rw [HSN.out, ← hx.out, if_neg hk2]
            omega
          · (repeat (first | (with_reducible exact Below.refl _ _) | (with_reducible assumption) | (with_reducible refine Below.drew ?_) | (with_reducible refine below_drewN ?_ _) | ((with_reducible refine bel_set ?_ ?_); (focus (first | (simp; done) | (simp; omega) | omega | (simp at *; omega)))) | (with_reducible refine bel_alloc0 ?_) | (with_reducible refine bel_step0 (by assumption) ?_) | ((with_reducible refine bel_alloc ?_ ?_); (focus (first | (simp; done) | (simp; omega) | omega | (simp at *; omega)))) | ((with_reducible refine bel_step (by assumption) ?_ ?_); (focus (first | (simp; done) | (simp; omega) | omega | (simp at *; omega))))))
        case measure => go_light; simp [intOf]; omega
    · obtain rfl : k = n := by omega
      go_wp2_with fail
      go_ret2
      go_light
      have h := hx.out
      rw [List.take_of_length_le (by have := HN.out; omega)] at h
      exact ⟨by rw [h]; rfl, rbel⟩

/-- Are edits more than statements do? -/
def GreatEds (es : List Ed) (w : World) (e : Ending) (w' : World) : Prop := ∃ g : Bool, e = .returned (.bool g) ∧ (g = false → es.length ≤ 40 ∧ ∀ e ∈ es, e.recs.length ≤ 40) ∧ Below w.heap.size w w'

set_option maxHeartbeats 400000 in
theorem great_eds (w : World) (A : Option Addr) (n c : Nat) (es : List Ed) (hn : es.length = n) (hN : n ≤ 9223372036854775807) (ha : EdRow w w.heap.size A es) :
    Calls Try.prog 41 #[.slice A n c] w (GreatEds es w) := by
  have HN := Lib.hid hn
  clear hn
  by_cases hbig : 40 < n
  · go_enter Try.func41, Try.ntmps41
    go_wp2_with fail
    go_ret
    exact ⟨true, rfl, (fun h => by cases h), Below.refl _ _⟩
  · go_enter Try.func41, Try.ntmps41
    go_wp2_with fail
    go_loopw [3] (fun i wr => ∃ k : Nat, k ≤ n ∧ i = .int .i64 k ∧ Hid (∀ j (e : Ed), j < k → es[j]? = some e → e.recs.length ≤ 40) ∧ Below w.heap.size w wr) (fun i _ => n - (intOf i).toNat)
    case atStart => exact ⟨0, by omega, rfl, fun j e h _ => absurd h (by omega), Below.refl _ _⟩
    case round =>
      obtain ⟨k, hk, rfl, hpre, rbel⟩ := hrel
      by_cases hlt : k < n
      · obtain ⟨b, off, rfl, hbb, hc⟩ := (ha.below rbel) (by have := HN.out; omega)
        have hi : k < es.length := by have := HN.out; omega
        have hge : es[k]? = some es[k] := List.getElem?_eq_getElem hi
        obtain ⟨R, rc, c0, c1, c2, hr, _⟩ := hc k _ hge
        generalize es[k] = e at *
        have HGE := Lib.hid hge
        clear hc hge hi hr
        obtain ⟨q, hq⟩ : ∃ q, q = e.recs.length := ⟨_, rfl⟩
        rw [← hq] at c2
        have HQ := Lib.hid hq
        clear hq
        have i1 : (0 : Int) ≤ (k : Int) := by omega
        have i2 : (k : Int) < (n : Int) := by omega
        by_cases hb : 40 < q
        · go_wp2_with fail
          go_ret
          exact ⟨true, rfl, (fun h => by cases h), rbel⟩
        · go_wp2_with fail
          go_roundw
          case rel =>
            go_light
            refine ⟨k + 1, by omega, by go_num, ?_, rbel⟩
            intro j x hj hx
            by_cases hjk : j = k
            · subst hjk
              have h1 := HGE.out
              rw [hx] at h1
              injection h1 with h1
              have := HQ.out
              rw [h1]
              omega
            · exact hpre.out j x (by omega) hx
          case measure => go_light; simp [intOf]; omega
      · obtain rfl : k = n := by omega
        go_wp2_with fail
        go_ret
        go_light
        refine ⟨false, rfl, (fun _ => ⟨by have := HN.out; omega, fun e he => ?_⟩), rbel⟩
        obtain ⟨j, hj, hv⟩ := List.mem_iff_getElem.1 he
        exact hpre.out j e (by have := HN.out; omega) (by rw [List.getElem?_eq_getElem hj, hv])
end Go.Proofs.Ytdfpcnldfibceaa.Diff

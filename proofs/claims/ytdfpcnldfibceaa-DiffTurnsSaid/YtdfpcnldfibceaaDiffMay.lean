/-
  The walks of package diff's may and walk$1, and of the library's ContainsFunc at it.
-/
import Derived.Test.YtdfpcnldfibceaaSameEds
import Derived.Test.YtdfpcnldfibceaaDiffLaws
namespace Go.Proofs.Ytdfpcnldfibceaa.Diff
open Go.RowKit Go.Proofs.Ytdfpcnldfibceaa.Mem Go.Proofs.Ytdfpcnldfibceaa.Recs

def mayB (kind n : Int) (q : Nat) : Bool := if kind = 1 ∨ kind = 2 then decide (1 ≤ n) && decide (q = 0) else if kind = 3 then decide (n = 0) && decide (0 < q) else false
theorem mayB_E (e : Ed) : mayB e.kind e.n e.recs.length = mayE e := by
  unfold mayB mayE
  obtain ⟨k, n, r⟩ := e
  simp only
  have h1 : decide (r.length = 0) = r.isEmpty := by cases r <;> simp
  have h2 : decide (0 < r.length) = !r.isEmpty := by cases r <;> simp
  rw [h1, h2]

theorem may_any (kind n : Int) (R : Option Addr) (q c : Nat) (w : World) :
    Calls Try.prog 98 #[.agg #[.int .i64 kind, .int .i64 n, .slice R q c]] w fun e w' => e = .returned (.bool (mayB kind n q)) ∧ Below w.heap.size w w' := by
  go_enter Try.func98, Try.ntmps98
  go_wp2
  all_goals
    go_ret
    refine ⟨ret_bool ?_, (Below.refl _ _).alloc (Nat.le_refl _) _⟩
    go_light
    first | (simp_all [mayB]; done) | (simp_all [mayB]; omega) | (subst_vars; simp_all [mayB]; rw [Bool.eq_iff_iff]; simp; done) | (subst_vars; simp_all [mayB]; rw [Bool.eq_iff_iff]; simp; omega)

theorem walk1_any (kind n : Int) (R : Option Addr) (q c : Nat) (w : World) :
    Calls Try.prog 137 #[.agg #[.int .i64 kind, .int .i64 n, .slice R q c]] w fun e w' => e = .returned (.bool (!mayB kind n q)) ∧ Below w.heap.size w w' := by
  go_enter Try.func137, Try.ntmps137
  go_wp2_with fail
  refine (may_any _ _ _ _ _ _).mono ?_
  rintro e w1 ⟨rfl, hb1⟩
  have z1 := hb1.size
  simp at z1
  go_wp2_with fail
  go_ret
  refine ⟨rfl, ?_⟩
  (repeat (first | (with_reducible exact Below.refl _ _) | (with_reducible assumption) | (with_reducible refine Below.drew ?_) | (with_reducible refine below_drewN ?_ _) | ((with_reducible refine bel_set ?_ ?_); (focus (first | (simp; done) | (simp; omega) | omega | (simp at *; omega)))) | (with_reducible refine bel_alloc0 ?_) | (with_reducible refine bel_step0 (by assumption) ?_) | ((with_reducible refine bel_alloc ?_ ?_); (focus (first | (simp; done) | (simp; omega) | omega | (simp at *; omega)))) | ((with_reducible refine bel_step (by assumption) ?_ ?_); (focus (first | (simp; done) | (simp; omega) | omega | (simp at *; omega))))))

def badB (es : List Ed) : Bool := es.any fun e => !mayE e

/-- The index that is told: none below 0 but where none is bad. -/
def IndexPost (es : List Ed) (w : World) (e : Ending) (w' : World) : Prop := ∃ x : Int, e = .returned (.int .i64 x) ∧ (decide (0 ≤ x) = badB es) ∧ Below w.heap.size w w'

set_option maxHeartbeats 400000 in
theorem index_any (w : World) (A : Option Addr) (n c : Nat) (es : List Ed) (hn : es.length = n) (hN : n ≤ 9223372036854775807) (ha : EdRow w w.heap.size A es) :
    Calls Try.prog 164 #[.slice A n c, .func (Fn.func 137) #[] #[]] w (IndexPost es w) := by
  have HN := Lib.hid hn
  clear hn
  go_enter Try.func164, Try.ntmps164
  go_wp2_with fail
  go_loopw [8] (fun i wr => ∃ k : Nat, k ≤ n ∧ i = .int .i64 k ∧ Hid (badB (es.take k) = false) ∧ Below w.heap.size w wr) (fun i _ => n - (intOf i).toNat)
  case atStart => exact ⟨0, by omega, rfl, rfl, Below.refl _ _⟩
  case round =>
    obtain ⟨k, hk, rfl, hbad, rbel⟩ := hrel
    by_cases hlt : k < n
    · obtain ⟨b, off, rfl, hbb, hc⟩ := (ha.below rbel) (by have := HN.out; omega)
      have hi : k < es.length := by have := HN.out; omega
      have hx : es[k]? = some es[k] := List.getElem?_eq_getElem hi
      obtain ⟨R, rc, c0, c1, c2, hr, _⟩ := hc k _ hx
      have hsn : badB (es.take (k + 1)) = (badB (es.take k) || !mayE es[k]) := by
        unfold badB
        rw [List.take_succ_eq_append_getElem hi, List.any_append]
        simp only [List.any_cons, List.any_nil, Bool.or_false]
      have hmem : es[k] ∈ es := List.getElem_mem hi
      generalize es[k] = e at *
      rw [← mayB_E] at hsn
      have HSN := Lib.hid hsn
      have HB := Lib.hid (show (!mayE e) = true → badB es = true from fun h => by unfold badB; rw [List.any_eq_true]; exact ⟨e, hmem, h⟩)
      rw [← mayB_E] at HB
      clear hc hx hsn hmem hi
      obtain ⟨kind, num, recs⟩ := e
      simp only at c0 c1 c2 HSN HB
      obtain ⟨q, hq⟩ : ∃ q, q = recs.length := ⟨_, rfl⟩
      rw [← hq] at c2 HSN HB
      clear hq hr
      have i1 : (0 : Int) ≤ (k : Int) := by omega
      have i2 : (k : Int) < (n : Int) := by omega
      have C := Lib.hid (fun wx => walk1_any kind num R q rc wx)
      cases hm : mayB kind num q
      · rw [hm] at C HB
        go_wp2_with fail
        refine (C.out _).mono ?_
        rintro e w1 ⟨rfl, hb1⟩
        go_wp2_with fail
        go_ret
        exact ⟨k, rfl, by rw [HB.out rfl]; simp, bel_step hb1 rbel.size rbel⟩
      · rw [hm] at C HSN
        go_wp2_with fail
        refine (C.out _).mono ?_
        rintro e w1 ⟨rfl, hb1⟩
        go_wp2_with fail
        go_roundw
        case rel =>
          go_light
          refine ⟨k + 1, by omega, by go_num, ?_, bel_step hb1 rbel.size rbel⟩
          show badB (es.take (k + 1)) = false
          rw [HSN.out, hbad.out]
          rfl
        case measure => go_light; simp [intOf]; omega
    · obtain rfl : k = n := by omega
      go_wp2_with fail
      go_ret
      go_light
      have h := hbad.out
      rw [List.take_of_length_le (by have := HN.out; omega)] at h
      exact ⟨-1, rfl, by rw [h]; rfl, rbel⟩

theorem contains_any (w : World) (A : Option Addr) (n c : Nat) (es : List Ed) (hn : es.length = n) (hN : n ≤ 9223372036854775807) (ha : EdRow w w.heap.size A es) :
    Calls Try.prog 136 #[.slice A n c, .func (Fn.func 137) #[] #[]] w fun e w' => e = .returned (.bool (badB es)) ∧ Below w.heap.size w w' := by
  have C := Lib.hid (index_any w A n c es hn hN ha)
  clear hn
  go_enter Try.func136, Try.ntmps136
  go_wp2_with fail
  refine C.out.mono ?_
  rintro e w1 ⟨x, rfl, hx, hb1⟩
  have HX := Lib.hid hx
  clear hx
  go_wp2_with fail
  go_ret
  exact ⟨ret_bool HX.out, hb1⟩
end Go.Proofs.Ytdfpcnldfibceaa.Diff

/-
  The walk of the statement DiffFinds.
-/
import Derived.Test.YtdfpcnldfibceaaRefDiff
import Derived.Test.YtdfpcnldfibceaaDiffAlive
namespace Go.Proofs.Ytdfpcnldfibceaa.Diff
open Go.RowKit Go.Proofs.Ytdfpcnldfibceaa.Mem Go.Proofs.Ytdfpcnldfibceaa.Recs

theorem EdsAt.rowOf {w : World} {base : Nat} {A : Option Addr} {n c : Nat} {es : List Ed} {rvs : List Value} (h : EdsAt w base (.slice A n c) es rvs) : es.length = n ∧ EdRow w w.heap.size A es := by
  obtain ⟨A', c', e, hr⟩ := h.row
  injection e with e1 e2 e3
  subst e1 e2
  exact ⟨rfl, hr⟩
theorem EdsAt.recsLen {w : World} {base : Nat} {v : Value} {es : List Ed} {rvs : List Value} (h : EdsAt w base v es rvs) : ∀ e ∈ es, e.recs.length ≤ 9223372036854775807 := by
  intro e he
  obtain ⟨i, hi, hv⟩ := List.mem_iff_getElem.1 he
  have hiv : i < rvs.length := by rw [h.len]; exact hi
  have := h.recs i e _ (by rw [List.getElem?_eq_getElem hi, hv]) (List.getElem?_eq_getElem hiv)
  unfold OwnsRecs at this
  rcases this.2 with ⟨_, h0⟩ | ⟨g, cap, cur, _, _, _, h1, h2, _⟩
  · omega
  · unfold maxLen at h2; omega
theorem EdsAt.esLen {w : World} {base : Nat} {v : Value} {es : List Ed} {rvs : List Value} (h : EdsAt w base v es rvs) : es.length ≤ 9223372036854775807 := by
  rcases h.own.2 with ⟨_, h0⟩ | ⟨g, cap, cur, _, _, _, h1, h2, _⟩
  · omega
  · unfold maxLen at h2; omega

set_option maxHeartbeats 1000000 in
theorem law_finds (w : World) (A B : Option Addr) (n m c d : Nat) (la lb : List Rec) (hn : la.length = n) (hm : lb.length = m) (hN : n ≤ 9223372036854775807) (hM : m ≤ 9223372036854775807) (hc : n ≤ c) (hd : m ≤ d)
    (ha : Row w w.heap.size A n 4 (recF la)) (hb : Row w w.heap.size B m 4 (recF lb)) :
    Calls Try.prog 3 #[.slice A n c, .slice B m d] w fun e w' => e = .returned (.bool true) ∧ Below w.heap.size w w' := by
  have HN := Lib.hid hn
  have HM := Lib.hid hm
  clear hn hm
  go_enter Try.func3, Try.ntmps3
  go_wp2_with fail
  refine (alive36 _).mono ?_
  rintro e w1 ⟨rfl, hb1⟩
  have z1 := hb1.size
  go_wp2_with fail
  refine (ref_great w1 A n c la 25 5000 (by omega) HN.out hN ((ha.below hb1).mono z1)).mono ?_
  rintro e w2 ⟨g1, rfl, hg1, hb2⟩
  have z2 := hb2.size
  have hbel2 : Below w.heap.size w w2 := bel_step hb2 z1 hb1
  cases g1
  · obtain ⟨hn25, _⟩ := hg1 rfl
    go_wp2_with fail
    refine (ref_great w2 B m d lb 25 5000 (by omega) HM.out hM ((hb.below hbel2).mono (by omega))).mono ?_
    rintro e w3 ⟨g2, rfl, hg2, hb3⟩
    have z3 := hb3.size
    have hbel3 : Below w.heap.size w w3 := bel_step hb3 (by omega) hbel2
    cases g2
    · obtain ⟨hm25, _⟩ := hg2 rfl
      go_wp2_with fail
      refine (diff_any w3 A B n m c d la lb HN.out HM.out (by omega) (by omega) ((ha.below hbel3).mono (by omega)) ((hb.below hbel3).mono (by omega))).mono ?_
      rintro e w4 ⟨v, rvs, rfl, hE, hb4⟩
      have z4 := hb4.size
      have hbel4 : Below w.heap.size w w4 := bel_step hb4 (by omega) hbel3
      obtain ⟨va, vc, rfl⟩ := own_shape hE.own
      go_wp2_with fail
      refine (refdiff_any w4 A B n m c d la lb HN.out HM.out (by omega) (by omega) hc hd ((ha.below hbel4).mono (by omega)) ((hb.below hbel4).mono (by omega))).mono ?_
      rintro e w5 ⟨v', rvs', rfl, hE', hb5⟩
      have z5 := hb5.size
      have hbel5 : Below w.heap.size w w5 := bel_step hb5 (by omega) hbel4
      obtain ⟨va', vc', rfl⟩ := own_shape hE'.own
      have r1 := (hE.step hb5).rowOf.2
      have r2 := hE'.rowOf.2
      go_wp2_with fail
      refine (eds_same w5 va va' _ vc vc' (diffL la lb) rfl hE.esLen hE.recsLen r1 r2).mono ?_
      rintro e w6 ⟨rfl, q, rfl⟩
      go_wp2_with fail
      go_ret
      exact ⟨rfl, below_drewN hbel5 _⟩
    · go_wp2_with fail
      go_ret
      exact ⟨rfl, hbel3⟩
  · go_wp2_with fail
    go_ret
    exact ⟨rfl, hbel2⟩
end Go.Proofs.Ytdfpcnldfibceaa.Diff

/-
  The statement ToksJoinsSaid: the walk of the law is ToksLaws; here it is lifted to the given statement. No further condition.
-/
import Derived.Test.YtdfpcnldfibceaaRows
import Derived.Test.YtdfpcnldfibceaaLift
import Derived.Test.YtdfpcnldfibceaaFacts
import Derived.Test.YtdfpcnldfibceaaToksLaws
namespace Go.Proofs.Ytdfpcnldfibceaa.pToksJoins
open Go.ChangeShapes Go.WideShapes Go.ChangeAt Go.RowKit Go.Joins Go.Deep Go.Proofs.Ytdfpcnldfibceaa.Lift
set_option linter.unusedVariables false

set_option maxRecDepth 100000 in
theorem lifted (os : Os) (started : os.Started) (H : Type) (enc : TypeId × Value → H) :
    ReturnsInHanded {} Try.checked os 6 .any (Rows.toksJoinsSpec.pre6 enc Try.prog Try.f6 Rows.toksJoinsRow.domain false) (Rows.toksJoinsSpec.post enc Try.prog Try.f6 false true false false) := by
  refine returnsInHanded_of_change_sized (C := Try.checked) own started (by kernel_rfl) Try.func6
    (ChangeSpec.witness6 (enc := enc) (C := Try.checked) false ⟨#[], #[.agg #[.int .u8 0, .int .i64 0, .int .i64 0], .agg #[.int .i64 0, .int .i64 0, .int .i64 0, .int .i64 0]], []⟩ 8 (by kernel_rfl) (by kernel_rfl) (by kernel_rfl) (by kernel_rfl)) ?_
  intro W base args ds gs before hval0 hW hcnd hsz0 hholds
  have hval : ∀ (j : Nat) t v, Try.f6.params[j]? = some t → args[j]? = some v → Value.okWide Try.prog W .any base t v := hval0
  have hsz : (DataW.weightsEach Try.prog (Try.f6.params.toList ++ Rows.toksJoinsSpec.plain.varTypes Try.prog) (ds ++ gs)).all (· ≤ reachBytes) = true := hsz0
  have hW' := hW
  obtain ⟨p, q, hA0, hV, rfl, hfz, hnd⟩ := hW
  have hA : DataW.TrodAll enc Try.prog W 0 (fun _ => true) true Try.f6.params.toList args.toList ds p := hA0
  rw [Try.params6] at hA hval hsz
  obtain ⟨v0, vs0, d0, ds0, p0, q0, hargs, rfl, rfl, h0, r0⟩ := trodAll_cons hA
  obtain ⟨v1, vs1, d1, ds1, p1, q1, rfl, rfl, rfl, h1, r1⟩ := trodAll_cons r0
  obtain ⟨rfl, rfl, rfl⟩ := trodAll_nil r1
  obtain rfl : args = #[v0, v1] := by cases args; simp_all
  obtain ⟨rfl, rfl⟩ := trodVars_none hV
  have k0 := h0
  have lt0 : ∀ x ∈ p0, x.block < W.heap.size := by obtain ⟨m, hm⟩ := k0; exact DataW.trod_lt m _ _ _ hm
  have k1 := h1
  have lt1 : ∀ x ∈ p1, x.block < W.heap.size := by obtain ⟨m, hm⟩ := k1; exact DataW.trod_lt m _ _ _ hm
  obtain ⟨c0_0, c0_1, c0_2, y0_0, y0_1, y0_2, m0, rfl, hd0, hp0, hy0_0, hy0_1, hy0_2⟩ := open_agg3 Try.underlying35 (by kernel_rfl) (by kernel_rfl) (hval 0 35 v0 rfl rfl) h0
  obtain ⟨a0_lit, e0_0, _, w0_lit⟩ := DataW.trod_int Try.underlying5 hy0_0
  obtain rfl : c0_0 = .int .u8 a0_lit := by simpa using e0_0
  obtain ⟨a0_len, e0_1, _, w0_len⟩ := DataW.trod_int Try.underlying3 hy0_1
  obtain rfl : c0_1 = .int .i64 a0_len := by simpa using e0_1
  obtain ⟨a0_dist, e0_2, _, w0_dist⟩ := DataW.trod_int Try.underlying3 hy0_2
  obtain rfl : c0_2 = .int .i64 a0_dist := by simpa using e0_2
  obtain ⟨c1_0, c1_1, c1_2, c1_3, y1_0, y1_1, y1_2, y1_3, m1, rfl, hd1, hp1, hy1_0, hy1_1, hy1_2, hy1_3⟩ := open_agg4 Try.underlying37 (by kernel_rfl) (by kernel_rfl) (hval 1 37 v1 rfl rfl) h1
  obtain ⟨a1_sym, e1_0, _, w1_sym⟩ := DataW.trod_int Try.underlying3 hy1_0
  obtain rfl : c1_0 = .int .i64 a1_sym := by simpa using e1_0
  obtain ⟨a1_len, e1_1, _, w1_len⟩ := DataW.trod_int Try.underlying3 hy1_1
  obtain rfl : c1_1 = .int .i64 a1_len := by simpa using e1_1
  obtain ⟨a1_dist, e1_2, _, w1_dist⟩ := DataW.trod_int Try.underlying3 hy1_2
  obtain rfl : c1_2 = .int .i64 a1_dist := by simpa using e1_2
  obtain ⟨a1_far, e1_3, _, w1_far⟩ := DataW.trod_int Try.underlying3 hy1_3
  obtain rfl : c1_3 = .int .i64 a1_far := by simpa using e1_3
  have main : Calls Try.prog 6 #[.agg #[.int .u8 a0_lit, .int .i64 a0_len, .int .i64 a0_dist], .agg #[.int .i64 a1_sym, .int .i64 a1_len, .int .i64 a1_dist, .int .i64 a1_far]] W fun e w' => e = .returned (.bool true) ∧ Below W.heap.size W w' := by
    exact Toks.law_joins ⟨a0_lit, a0_len, a0_dist⟩ ⟨a1_sym, a1_len, a1_dist, a1_far⟩ W (bounds_u8 w0_lit).1 (bounds_u8 w0_lit).2 ⟨bounds_i64 w1_sym, bounds_i64 w1_len⟩
  clear hA0 hval0
  refine main.mono fun e W' ⟨he, bel⟩ => ?_
  subst he
  exact ⟨_, rfl, _, _, _, [], _, [], hW', trodAll_mk1 (shut_bool Try.underlying4 _), (trodAll_cons_mk (Below.trod laidOut (by kernel_rfl) (of_decide_eq_true (by kernel_rfl)) k0 bel lt0) (trodAll_cons_mk (Below.trod laidOut (by kernel_rfl) (of_decide_eq_true (by kernel_rfl)) k1 bel lt1) trodAll_mk0)), rfl, bel.frame _, fun h => by cases h⟩

theorem closed : joinedFacts Try.prog 6 Try.f6 Rows.toksJoinsSpec Rows.toksJoinsRow = true := by
  unfold joinedFacts
  simp only [Bool.and_eq_true]
  repeat' apply And.intro
  all_goals first | with_reducible exact Facts.mayEnter | with_reducible exact Facts.laidOut | with_reducible exact Facts.mapsRowed | with_reducible exact Facts.stopsHeard | (rw [Facts.liftsFinal]; as_aux_lemma => kernel_rfl) | (rw [Facts.make]; as_aux_lemma => kernel_rfl) | (rw [Facts.plainKeys]; as_aux_lemma => kernel_rfl) | (as_aux_lemma => kernel_rfl)

theorem proved : Rows.ToksJoinsSaid :=
  OpenClaim.holds_of_wide 6 Try.f6 rfl rfl rfl rfl rfl rfl rfl ⟨rfl, rfl, rfl, rfl, rfl⟩ rfl rfl rfl rfl rfl (by kernel_rfl) Try.func6
    closed (of_decide_eq_true (by kernel_rfl)) (by unfold Func.isWrapper; rw [if_neg (by decide +kernel)]; exact ⟨rfl, rfl⟩)
    (fun os started H enc _ => lifted os started H enc)
#print axioms proved
end Go.Proofs.Ytdfpcnldfibceaa.pToksJoins

/-
  The statement SiftMaySaid: the walk of the law is SiftLaws; here it is lifted to the given statement. No further condition.
-/
import Derived.Test.YtloakdiioaodaaaRows
import Derived.Test.YtloakdiioaodaaaLift
import Derived.Test.YtloakdiioaodaaaFacts
import Derived.Test.YtloakdiioaodaaaSiftLaws
import Derived.HandedShaped
namespace Go.Proofs.Ytloakdiioaodaaa.pSiftMay
open Go.ChangeShapes Go.WideShapes Go.ChangeAt Go.RowKit Go.Joins Go.Deep Go.Proofs.Ytloakdiioaodaaa.Lift
set_option linter.unusedVariables false

set_option maxRecDepth 100000 in
theorem lifted (os : Os) (started : os.Started) (H : Type) (enc : TypeId × Value → H) :
    ReturnsInHanded {} Try.checked os 3 .any (Rows.siftMaySpec.pre6 enc Try.prog Try.f3 Rows.siftMayRow.domain false) (Rows.siftMaySpec.post enc Try.prog Try.f3 false true false false) := by
  refine returnsInHanded_of_change_shaped (C := Try.checked) own started (by kernel_rfl) Try.func3
    (ChangeSpec.witness6 (enc := enc) (C := Try.checked) false ⟨#[], #[.agg #[.int .u64 0, .int .u8 0, .string ⟨#[]⟩, .string ⟨#[]⟩], .string ⟨#[]⟩], []⟩ 8 (by kernel_rfl) (by kernel_rfl) (by kernel_rfl) (by kernel_rfl)) ?_
  intro W base args ds gs before hval0 hW hcnd hsz0 hsh hholds
  have hval : ∀ (j : Nat) t v, Try.f3.params[j]? = some t → args[j]? = some v → Value.okWide Try.prog W .any base t v := hval0
  have hsz : (DataW.weightsEach Try.prog (Try.f3.params.toList ++ Rows.siftMaySpec.plain.varTypes Try.prog) (ds ++ gs)).all (· ≤ reachBytes) = true := hsz0
  have hW' := hW
  obtain ⟨p, q, hA0, hV, rfl, hfz, hnd⟩ := hW
  have hA : DataW.TrodAll enc Try.prog W 0 (fun _ => true) true Try.f3.params.toList args.toList ds p := hA0
  rw [Try.params3] at hA hval hsz
  obtain ⟨v0, vs0, d0, ds0, p0, q0, hargs, rfl, rfl, h0, r0⟩ := trodAll_cons hA
  obtain ⟨v1, vs1, d1, ds1, p1, q1, rfl, rfl, rfl, h1, r1⟩ := trodAll_cons r0
  obtain ⟨rfl, rfl, rfl⟩ := trodAll_nil r1
  obtain rfl : args = #[v0, v1] := by cases args; simp_all
  obtain ⟨rfl, rfl⟩ := trodVars_none hV
  have k0 := h0
  have lt0 : ∀ x ∈ p0, x.block < W.heap.size := by obtain ⟨m, hm⟩ := k0; exact DataW.trod_lt m _ _ _ hm
  have k1 := h1
  have lt1 : ∀ x ∈ p1, x.block < W.heap.size := by obtain ⟨m, hm⟩ := k1; exact DataW.trod_lt m _ _ _ hm
  obtain ⟨c0_0, c0_1, c0_2, c0_3, y0_0, y0_1, y0_2, y0_3, m0, rfl, hd0, hp0, hy0_0, hy0_1, hy0_2, hy0_3⟩ := open_agg4 Try.underlying24 (by kernel_rfl) (by kernel_rfl) (hval 0 24 v0 rfl rfl) h0
  obtain ⟨a0_time, e0_0, _, w0_time⟩ := DataW.trod_int Try.underlying22 hy0_0
  obtain rfl : c0_0 = .int .u64 a0_time := by simpa using e0_0
  obtain ⟨a0_level, e0_1, _, w0_level⟩ := DataW.trod_int Try.underlying5 hy0_1
  obtain rfl : c0_1 = .int .u8 a0_level := by simpa using e0_1
  obtain ⟨a0_source, e0_2, _, w0_source⟩ := DataW.trod_string Try.underlying9 hy0_2
  obtain rfl : c0_2 = .string a0_source := by simpa using e0_2
  obtain ⟨a0_text, e0_3, _, w0_text⟩ := DataW.trod_string Try.underlying9 hy0_3
  obtain rfl : c0_3 = .string a0_text := by simpa using e0_3
  obtain ⟨a1, rfl, rfl, rfl, w1⟩ := Go.ChangeMaps.open_string Try.underlying9 (hval 1 9 v1 rfl rfl) h1
  have main : Calls Try.prog 3 #[.agg #[.int .u64 a0_time, .int .u8 a0_level, .string a0_source, .string a0_text], .string a1] W fun e w' => e = .returned (.bool true) ∧ Below W.heap.size W w' := by
    have hm : Sift.MLen W := Try.laysM144.s1_3 W hsh
    by_cases h : a0_text.size ≤ 500 ∧ a1.size ≤ 100
    · exact Sift.law_may W _ _ _ _ _ hm h.1 h.2
    · exact Sift.law_may_long W _ _ _ _ _ hm h
  clear hA0 hval0
  refine main.mono fun e W' ⟨he, bel⟩ => ?_
  subst he
  exact ⟨_, rfl, _, _, _, [], _, [], hW', trodAll_mk1 (shut_bool Try.underlying4 _), (trodAll_cons_mk (Below.trod laidOut (by kernel_rfl) (of_decide_eq_true (by kernel_rfl)) k0 bel lt0) (trodAll_cons_mk (Below.trod laidOut (by kernel_rfl) (of_decide_eq_true (by kernel_rfl)) k1 bel lt1) trodAll_mk0)), rfl, bel.frame _, fun h => by cases h⟩

theorem closed : joinedFacts Try.prog 3 Try.f3 Rows.siftMaySpec Rows.siftMayRow = true := by
  unfold joinedFacts
  simp only [Bool.and_eq_true]
  repeat' apply And.intro
  all_goals first | with_reducible exact Facts.mayEnter | with_reducible exact Facts.laidOut | with_reducible exact Facts.mapsRowed | with_reducible exact Facts.stopsHeard | (rw [Facts.liftsFinal]; as_aux_lemma => kernel_rfl) | (rw [Facts.make]; as_aux_lemma => kernel_rfl) | (rw [Facts.plainKeys]; as_aux_lemma => kernel_rfl) | (as_aux_lemma => kernel_rfl)

theorem proved : Rows.SiftMaySaid :=
  OpenClaim.holds_of_wide 3 Try.f3 rfl rfl rfl rfl rfl rfl rfl ⟨rfl, rfl, rfl, rfl, rfl⟩ rfl rfl rfl rfl rfl (by kernel_rfl) Try.func3
    closed (of_decide_eq_true (by kernel_rfl)) (by unfold Func.isWrapper; rw [if_neg (by decide +kernel)]; exact ⟨rfl, rfl⟩)
    (fun os started H enc _ => lifted os started H enc)
#print axioms proved
end Go.Proofs.Ytloakdiioaodaaa.pSiftMay

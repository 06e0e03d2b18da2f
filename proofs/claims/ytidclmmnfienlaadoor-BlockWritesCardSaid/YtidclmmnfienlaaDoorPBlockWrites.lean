/-
  The statement BlockWritesSaid: the walk of the law is BlockWrites; here it is lifted to the given statement. No further condition.
-/
import Derived.Test.YtidclmmnfienlaaDoorRows
import Derived.Test.YtidclmmnfienlaaDoorTie
import Derived.Test.YtidclmmnfienlaaDoorCards
import Derived.Test.YtidclmmnfienlaaDoorDoorLaid
import Derived.SevenTiedAt
import Derived.Test.YtidclmmnfienlaaDoorLift
import Derived.Test.YtidclmmnfienlaaDoorFacts
import Derived.Test.YtidclmmnfienlaaDoorBlockWrites
import Derived.Test.YtidclmmnfienlaaDoorOpenN
namespace Go.Proofs.YtidclmmnfienlaaDoor.pBlockWrites
open Go.ChangeShapes Go.WideShapes Go.ChangeAt Go.RowKit Go.Joins Go.Deep Go.Proofs.YtidclmmnfienlaaDoor.Lift
set_option linter.unusedVariables false

set_option maxRecDepth 100000 in
theorem lifted (os : Os) (started : os.Started) (H : Type) (enc : TypeId × Value → H) :
    ReturnsInHanded {} Tryd.checked os 3 .any (fun w args => (Rows.blockWritesSpec.pre enc Tryd.prog Tryd.f3 Rows.blockWritesRow.domain false w args ∧ laidMetH Tryd.prog Door.laidL w) ∧ sizedMet enc Tryd.prog Tryd.f3 (OpenSpec.ofChange Rows.blockWritesSpec) false w args) (Rows.blockWritesSpec.post enc Tryd.prog Tryd.f3 false true false false) := by
  refine returnsInHanded_of_change_and (C := Tryd.checked) (X := fun w _ => laidMetH Tryd.prog Door.laidL w) (fun _ _ _ hh h => h.of_heap hh) own started (by kernel_rfl) Tryd.func3
    (ChangeSpec.witness_shaped (enc := enc) (C := Tryd.checked) (os := os) (X := fun w _ => laidMetH Tryd.prog Door.laidL w) false (World.doorLaid Tryd.prog 400 os) #[.slice none 0 0, .bool false] 8 rfl (Door.door_shaped os _) (by kernel_rfl) (by kernel_rfl) (by kernel_rfl) (Door.door_met os _)) ?_
  intro W base args ds gs before hval0 hW hcnd hsz0 hL hholds
  have ht := Door.tab_at hL
  have hval : ∀ (j : Nat) t v, Tryd.f3.params[j]? = some t → args[j]? = some v → Value.okWide Tryd.prog W .any base t v := hval0
  have hsz : (DataW.weightsEach Tryd.prog (Tryd.f3.params.toList ++ Rows.blockWritesSpec.plain.varTypes Tryd.prog) (ds ++ gs)).all (· ≤ reachBytes) = true := hsz0
  have hW' := hW
  obtain ⟨p, q, hA0, hV, rfl, hfz, hnd⟩ := hW
  have hA : DataW.TrodAll enc Tryd.prog W 0 (fun _ => true) true Tryd.f3.params.toList args.toList ds p := hA0
  rw [Tryd.params3] at hA hval hsz
  obtain ⟨v0, vs0, d0, ds0, p0, q0, hargs, rfl, rfl, h0, r0⟩ := trodAll_cons hA
  obtain ⟨v1, vs1, d1, ds1, p1, q1, rfl, rfl, rfl, h1, r1⟩ := trodAll_cons r0
  obtain ⟨rfl, rfl, rfl⟩ := trodAll_nil r1
  obtain rfl : args = #[v0, v1] := by cases args; simp_all
  obtain ⟨rfl, rfl⟩ := trodVars_none hV
  have k0 := h0
  have lt0 : ∀ x ∈ p0, x.block < W.heap.size := by obtain ⟨m, hm⟩ := k0; exact DataW.trod_lt m _ _ _ hm
  have k1 := h1
  have lt1 : ∀ x ∈ p1, x.block < W.heap.size := by obtain ⟨m, hm⟩ := k1; exact DataW.trod_lt m _ _ _ hm
  obtain ⟨A0, len0, cap0, rfl⟩ := okWide_slice Tryd.underlying22 (hval 0 22 v0 rfl rfl)
  obtain ⟨fuel0, hf0⟩ := h0
  obtain ⟨a1, rfl, rfl, rfl⟩ := open_bool Tryd.underlying4 (hval 1 4 v1 rfl rfl) h1
  have main : Calls Tryd.prog 3 #[.slice A0 len0 cap0, .bool a1] W fun e w' => e = .returned (.bool true) ∧ Below W.heap.size W w' := by
    obtain ⟨ls, hl, h8, hrow, hbig, hwf⟩ := Open.bytes8 hf0
    by_cases h : len0 ≤ 1000
    · exact Block.law_writes W A0 len0 cap0 a1 ls hl h hwf.1 h8 ht hrow
    · by_cases h2 : len0 ≤ 32768
      · exact Block.law_writes_mid W A0 len0 cap0 a1 (by omega) h2 ht
      · exact Block.law_writes_big W A0 len0 cap0 a1 hbig (by omega) ht
  clear hA0 hval0
  refine main.mono fun e W' ⟨he, bel⟩ => ?_
  subst he
  exact ⟨_, rfl, _, _, _, [], _, [], hW', trodAll_mk1 (shut_bool Tryd.underlying4 _), (trodAll_cons_mk (Below.trod laidOut (by kernel_rfl) (of_decide_eq_true (by kernel_rfl)) k0 bel lt0) (trodAll_cons_mk (Below.trod laidOut (by kernel_rfl) (of_decide_eq_true (by kernel_rfl)) k1 bel lt1) trodAll_mk0)), rfl, bel.frame _, fun h => by cases h⟩

theorem closed : joinedFacts Tryd.prog 3 Tryd.f3 Rows.blockWritesSpec Rows.blockWritesRow = true := by
  unfold joinedFacts
  simp only [Bool.and_eq_true]
  repeat' apply And.intro
  all_goals first | with_reducible exact Facts.mayEnter | with_reducible exact Facts.laidOut | with_reducible exact Facts.mapsRowed | with_reducible exact Facts.stopsHeard | (rw [Facts.liftsFinal]; as_aux_lemma => kernel_rfl) | (rw [Facts.make]; as_aux_lemma => kernel_rfl) | (rw [Facts.plainKeys]; as_aux_lemma => kernel_rfl) | (as_aux_lemma => kernel_rfl)

theorem row_holds : Rows.BlockWritesSaid :=
  OpenClaim.holds_of_wide 3 Tryd.f3 rfl rfl rfl rfl rfl rfl rfl ⟨rfl, rfl, rfl, rfl, rfl⟩ rfl rfl rfl rfl rfl (by kernel_rfl) Tryd.func3
    closed (of_decide_eq_true (by kernel_rfl)) (by unfold Func.isWrapper; rw [if_neg (by decide +kernel)]; exact ⟨rfl, rfl⟩)
    (fun os started H enc _ => lifted os started H enc)
theorem proved : Rows.BlockWritesCardSaid :=
  Claim7.holds_tied_plain_at .later [] [.data] true _ false row_holds (fun _ h => by cases h) (by kernel_rfl) (fun _ h => by cases h) blockWrites_row_tie rfl ⟨rfl, rfl⟩ (by kernel_rfl) rfl
    (fun f fn hf hfn => by
      obtain rfl : f = 3 := Option.some.inj ((show Tryd.prog.funcNamed "firkin/firkinlaw12.BlockWrites" = some 3 by kernel_rfl).symm.trans hf) |>.symm
      obtain rfl : fn = Tryd.f3 := (Option.some.inj (Tryd.func3.symm.trans hfn)).symm
      exact ⟨by kernel_rfl, fun j t ht => by
        rw [Tryd.params3] at ht
        have hm : t ∈ [22, 4] := by simpa using Array.mem_of_getElem? ht
        have hall : ([22, 4].all fun u => !Tryd.prog.wantsStandIn u) = true := by kernel_rfl
        exact (show Tryd.prog.wantsStandIn t = false by simpa using List.all_eq_true.1 hall t hm)⟩)
    (by kernel_rfl)
#print axioms proved
end Go.Proofs.YtidclmmnfienlaaDoor.pBlockWrites

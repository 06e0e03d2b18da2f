/-
  The statement BlockTurnedSaid: the walk of the law is BlockTurned; here it is lifted to the given statement. No further condition.
-/
import Derived.Test.YtidclmmnfienlaaGreatDoorRows
import Derived.Test.YtidclmmnfienlaaGreatDoorTie
import Derived.Test.YtidclmmnfienlaaGreatDoorCards
import Derived.Test.YtidclmmnfienlaaGreatDoorDoorLaid
import Derived.SevenTiedAt
import Derived.Test.YtidclmmnfienlaaGreatDoorLift
import Derived.Test.YtidclmmnfienlaaGreatDoorFacts
import Derived.Test.YtidclmmnfienlaaGreatDoorTurnW
import Derived.Test.YtidclmmnfienlaaGreatDoorOpenN
namespace Go.Proofs.YtidclmmnfienlaaGreatDoor.pBlockTurned
open Go.ChangeShapes Go.WideShapes Go.ChangeAt Go.RowKit Go.Joins Go.Deep Go.Proofs.YtidclmmnfienlaaGreatDoor.Lift
set_option linter.unusedVariables false

set_option maxRecDepth 100000 in
theorem lifted (os : Os) (started : os.Started) (H : Type) (enc : TypeId × Value → H) :
    ReturnsInHanded {} Tryz.checked os 4 .any (fun w args => (Rows.blockTurnedSpec.pre enc Tryz.prog Tryz.f4 Rows.blockTurnedRow.domain false w args ∧ laidMetH Tryz.prog Door.laidL w) ∧ sizedMet enc Tryz.prog Tryz.f4 (OpenSpec.ofChange Rows.blockTurnedSpec) false w args) (Rows.blockTurnedSpec.post enc Tryz.prog Tryz.f4 false true false false) := by
  refine returnsInHanded_of_change_and (C := Tryz.checked) (X := fun w _ => laidMetH Tryz.prog Door.laidL w) (fun _ _ _ hh h => h.of_heap hh) own started (by kernel_rfl) Tryz.func4
    (ChangeSpec.witness_shaped (enc := enc) (C := Tryz.checked) (os := os) (X := fun w _ => laidMetH Tryz.prog Door.laidL w) false (World.doorLaid Tryz.prog 400 os) #[.slice none 0 0, .bool false, .int .u16 0, .int .u32 0] 8 rfl (Door.door_shaped os _) (by kernel_rfl) (by kernel_rfl) (by kernel_rfl) (Door.door_met os _)) ?_
  intro W base args ds gs before hval0 hW hcnd hsz0 hL hholds
  have ht := Door.tab_at hL
  have hval : ∀ (j : Nat) t v, Tryz.f4.params[j]? = some t → args[j]? = some v → Value.okWide Tryz.prog W .any base t v := hval0
  have hsz : (DataW.weightsEach Tryz.prog (Tryz.f4.params.toList ++ Rows.blockTurnedSpec.plain.varTypes Tryz.prog) (ds ++ gs)).all (· ≤ reachBytes) = true := hsz0
  have hW' := hW
  obtain ⟨p, q, hA0, hV, rfl, hfz, hnd⟩ := hW
  have hA : DataW.TrodAll enc Tryz.prog W 0 (fun _ => true) true Tryz.f4.params.toList args.toList ds p := hA0
  rw [Tryz.params4] at hA hval hsz
  obtain ⟨v0, vs0, d0, ds0, p0, q0, hargs, rfl, rfl, h0, r0⟩ := trodAll_cons hA
  obtain ⟨v1, vs1, d1, ds1, p1, q1, rfl, rfl, rfl, h1, r1⟩ := trodAll_cons r0
  obtain ⟨v2, vs2, d2, ds2, p2, q2, rfl, rfl, rfl, h2, r2⟩ := trodAll_cons r1
  obtain ⟨v3, vs3, d3, ds3, p3, q3, rfl, rfl, rfl, h3, r3⟩ := trodAll_cons r2
  obtain ⟨rfl, rfl, rfl⟩ := trodAll_nil r3
  obtain rfl : args = #[v0, v1, v2, v3] := by cases args; simp_all
  obtain ⟨rfl, rfl⟩ := trodVars_none hV
  have k0 := h0
  have lt0 : ∀ x ∈ p0, x.block < W.heap.size := by obtain ⟨m, hm⟩ := k0; exact DataW.trod_lt m _ _ _ hm
  have k1 := h1
  have lt1 : ∀ x ∈ p1, x.block < W.heap.size := by obtain ⟨m, hm⟩ := k1; exact DataW.trod_lt m _ _ _ hm
  have k2 := h2
  have lt2 : ∀ x ∈ p2, x.block < W.heap.size := by obtain ⟨m, hm⟩ := k2; exact DataW.trod_lt m _ _ _ hm
  have k3 := h3
  have lt3 : ∀ x ∈ p3, x.block < W.heap.size := by obtain ⟨m, hm⟩ := k3; exact DataW.trod_lt m _ _ _ hm
  obtain ⟨A0, len0, cap0, rfl⟩ := okWide_slice Tryz.underlying29 (hval 0 29 v0 rfl rfl)
  obtain ⟨fuel0, hf0⟩ := h0
  obtain ⟨a1, rfl, rfl, rfl⟩ := open_bool Tryz.underlying4 (hval 1 4 v1 rfl rfl) h1
  obtain ⟨a2, rfl, rfl, rfl, w2⟩ := open_int Tryz.underlying35 (hval 2 35 v2 rfl rfl) h2
  obtain ⟨a3, rfl, rfl, rfl, w3⟩ := open_int Tryz.underlying36 (hval 3 36 v3 rfl rfl) h3
  have main : Calls Tryz.prog 4 #[.slice A0 len0 cap0, .bool a1, .int .u16 a2, .int .u32 a3] W fun e w' => e = .returned (.bool true) ∧ Below W.heap.size W w' := by
    obtain ⟨ls, hl, h8, hrow, hbig, hwf⟩ := Open.bytes8 hf0
    have hb2 := bounds_u16 w2
    have hb3 := bounds_u32 w3
    obtain ⟨m, rfl⟩ := Int.eq_ofNat_of_zero_le hb2.1
    obtain ⟨q, rfl⟩ := Int.eq_ofNat_of_zero_le hb3.1
    by_cases h : len0 ≤ 1000
    · exact Block.law_turned W A0 len0 cap0 m q a1 ls (by omega) (by omega) hl h hwf.1 h8 ht hrow
    · exact Block.law_turned_long W A0 len0 cap0 a1 m q hbig (by omega) ht
  clear hA0 hval0
  refine main.mono fun e W' ⟨he, bel⟩ => ?_
  subst he
  exact ⟨_, rfl, _, _, _, [], _, [], hW', trodAll_mk1 (shut_bool Tryz.underlying4 _), (trodAll_cons_mk (Below.trod laidOut (by kernel_rfl) (of_decide_eq_true (by kernel_rfl)) k0 bel lt0) (trodAll_cons_mk (Below.trod laidOut (by kernel_rfl) (of_decide_eq_true (by kernel_rfl)) k1 bel lt1) (trodAll_cons_mk (Below.trod laidOut (by kernel_rfl) (of_decide_eq_true (by kernel_rfl)) k2 bel lt2) (trodAll_cons_mk (Below.trod laidOut (by kernel_rfl) (of_decide_eq_true (by kernel_rfl)) k3 bel lt3) trodAll_mk0)))), rfl, bel.frame _, fun h => by cases h⟩

set_option maxHeartbeats 2000000 in
theorem closed : joinedFacts Tryz.prog 4 Tryz.f4 Rows.blockTurnedSpec Rows.blockTurnedRow = true := by
  unfold joinedFacts
  simp only [Bool.and_eq_true]
  repeat' apply And.intro
  all_goals first | with_reducible exact Facts.mayEnter | with_reducible exact Facts.laidOut | with_reducible exact Facts.mapsRowed | with_reducible exact Facts.stopsHeard | (rw [Facts.liftsFinal]; as_aux_lemma => kernel_rfl) | (rw [Facts.make]; as_aux_lemma => kernel_rfl) | (rw [Facts.plainKeys]; as_aux_lemma => kernel_rfl) | (as_aux_lemma => kernel_rfl)

theorem row_holds : Rows.BlockTurnedSaid :=
  OpenClaim.holds_of_wide 4 Tryz.f4 rfl rfl rfl rfl rfl rfl rfl ⟨rfl, rfl, rfl, rfl, rfl⟩ rfl rfl rfl rfl rfl (by kernel_rfl) Tryz.func4
    closed (of_decide_eq_true (by kernel_rfl)) (by unfold Func.isWrapper; rw [if_neg (by decide +kernel)]; exact ⟨rfl, rfl⟩)
    (fun os started H enc _ => lifted os started H enc)
theorem proved : Rows.BlockTurnedCardSaid :=
  Claim7.holds_tied_plain_at .later [] [.data] true _ false row_holds (fun _ h => by cases h) (by kernel_rfl) (fun _ h => by cases h) blockTurned_row_tie rfl ⟨rfl, rfl⟩ (by kernel_rfl) rfl
    (fun f fn hf hfn => by
      obtain rfl : f = 4 := Option.some.inj ((show Tryz.prog.funcNamed "firkin/firkinlaw12.BlockTurned" = some 4 by kernel_rfl).symm.trans hf) |>.symm
      obtain rfl : fn = Tryz.f4 := (Option.some.inj (Tryz.func4.symm.trans hfn)).symm
      exact ⟨by kernel_rfl, fun j t ht => by
        rw [Tryz.params4] at ht
        have hm : t ∈ [29, 4, 35, 36] := by simpa using Array.mem_of_getElem? ht
        have hall : ([29, 4, 35, 36].all fun u => !Tryz.prog.wantsStandIn u) = true := by kernel_rfl
        exact (show Tryz.prog.wantsStandIn t = false by simpa using List.all_eq_true.1 hall t hm)⟩)
    (by kernel_rfl)
#print axioms proved
end Go.Proofs.YtidclmmnfienlaaGreatDoor.pBlockTurned

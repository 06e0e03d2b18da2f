/-
  The statement BodyNoneSaid: the walk of the law is BodyNone; here it is lifted to the given statement. No further condition.
-/
import Derived.Test.YtcafklmbehoggaaGreatDoorZBodyNone33
import Derived.Test.YtcafklmbehoggaaGreatDoorZBodyNone34
import Derived.Test.YtcafklmbehoggaaGreatDoorZBodyNone35
import Derived.Test.YtcafklmbehoggaaGreatDoorZBodyNone36
import Derived.Test.YtcafklmbehoggaaGreatDoorZBodyNone37
namespace Go.Proofs.YtcafklmbehoggaaGreatDoor.pBodyNone
open Go.ChangeShapes Go.WideShapes Go.ChangeAt Go.RowKit Go.Joins Go.Deep Go.Proofs.YtcafklmbehoggaaGreatDoor.Lift
theorem proved : Rows.BodyNoneCardSaid :=
  Claim7.holds_tied_plain_at .later [] [.data] true Rows.bodyNoneCard.stood.harness false row_holds (fun _ h => by cases h) wfText (fun _ h => by cases h) bodyNone_row_tie rfl ⟨rfl, rfl⟩ Facts.mainIs rfl
    (fun f fn hf hfn => by
      obtain rfl : f = 5 := Option.some.inj (fnamed.symm.trans hf) |>.symm
      obtain rfl : fn = Tryz.f5 := (Option.some.inj (Tryz.func5.symm.trans hfn)).symm
      exact ⟨Facts.looks, fun j t ht => by
        rw [Tryz.params5] at ht
        have hm : t ∈ [3] := by simpa using Array.mem_of_getElem? ht
        have hall : ([3].all fun u => !Tryz.prog.wantsStandIn u) = true := by kernel_rfl
        exact (show Tryz.prog.wantsStandIn t = false by simpa using List.all_eq_true.1 hall t hm)⟩)
    goes
#print axioms proved
end Go.Proofs.YtcafklmbehoggaaGreatDoor.pBodyNone

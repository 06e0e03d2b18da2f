/-
  The statement OneBackSaid: the walk of the law is OneBack; here it is lifted to the given statement. No further condition.
-/
import Derived.Test.YtmgjgkdbagbleaaGreatDoorZOneBack41
import Derived.Test.YtmgjgkdbagbleaaGreatDoorZOneBack42
import Derived.Test.YtmgjgkdbagbleaaGreatDoorZOneBack43
import Derived.Test.YtmgjgkdbagbleaaGreatDoorZOneBack44
import Derived.Test.YtmgjgkdbagbleaaGreatDoorZOneBack45
namespace Go.Proofs.YtmgjgkdbagbleaaGreatDoor.pOneBack
open Go.ChangeShapes Go.WideShapes Go.ChangeAt Go.RowKit Go.Joins Go.Deep Go.Proofs.YtmgjgkdbagbleaaGreatDoor.Lift
theorem proved : Rows.OneBackCardSaid :=
  Claim7.holds_tied_plain_at .later [] [.data] true Rows.oneBackCard.stood.harness false row_holds (fun _ h => by cases h) wfText (fun _ h => by cases h) oneBack_row_tie rfl ⟨rfl, rfl⟩ Facts.mainIs rfl
    (fun f fn hf hfn => by
      obtain rfl : f = 4 := Option.some.inj (fnamed.symm.trans hf) |>.symm
      obtain rfl : fn = Tryz.f4 := (Option.some.inj (Tryz.func4.symm.trans hfn)).symm
      exact ⟨Facts.looks, fun j t ht => by
        rw [Tryz.params4] at ht
        have hm : t ∈ [25, 26] := by simpa using Array.mem_of_getElem? ht
        have hall : ([25, 26].all fun u => !Tryz.prog.wantsStandIn u) = true := by kernel_rfl
        exact (show Tryz.prog.wantsStandIn t = false by simpa using List.all_eq_true.1 hall t hm)⟩)
    goes
#print axioms proved
end Go.Proofs.YtmgjgkdbagbleaaGreatDoor.pOneBack

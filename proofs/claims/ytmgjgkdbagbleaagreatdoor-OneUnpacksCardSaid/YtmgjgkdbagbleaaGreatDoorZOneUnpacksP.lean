/-
  The statement OneUnpacksSaid: the walk of the law is OneUnpacks; here it is lifted to the given statement. No further condition.
-/
import Derived.Test.YtmgjgkdbagbleaaGreatDoorZOneUnpacks39
import Derived.Test.YtmgjgkdbagbleaaGreatDoorZOneUnpacks40
import Derived.Test.YtmgjgkdbagbleaaGreatDoorZOneUnpacks41
import Derived.Test.YtmgjgkdbagbleaaGreatDoorZOneUnpacks42
import Derived.Test.YtmgjgkdbagbleaaGreatDoorZOneUnpacks43
namespace Go.Proofs.YtmgjgkdbagbleaaGreatDoor.pOneUnpacks
open Go.ChangeShapes Go.WideShapes Go.ChangeAt Go.RowKit Go.Joins Go.Deep Go.Proofs.YtmgjgkdbagbleaaGreatDoor.Lift
theorem proved : Rows.OneUnpacksCardSaid :=
  Claim7.holds_tied_plain_at .later [] [.data] true Rows.oneUnpacksCard.stood.harness false row_holds (fun _ h => by cases h) wfText (fun _ h => by cases h) oneUnpacks_row_tie rfl ⟨rfl, rfl⟩ Facts.mainIs rfl
    (fun f fn hf hfn => by
      obtain rfl : f = 3 := Option.some.inj (fnamed.symm.trans hf) |>.symm
      obtain rfl : fn = Tryz.f3 := (Option.some.inj (Tryz.func3.symm.trans hfn)).symm
      exact ⟨Facts.looks, fun j t ht => by
        rw [Tryz.params3] at ht
        have hm : t ∈ [22] := by simpa using Array.mem_of_getElem? ht
        have hall : ([22].all fun u => !Tryz.prog.wantsStandIn u) = true := by kernel_rfl
        exact (show Tryz.prog.wantsStandIn t = false by simpa using List.all_eq_true.1 hall t hm)⟩)
    goes
#print axioms proved
end Go.Proofs.YtmgjgkdbagbleaaGreatDoor.pOneUnpacks

/- Facts of the statement TwoPacksSaid's card (part E). -/
import Derived.Test.YtmlaajebadfkoaaGreatDoorRows
import Derived.SevenTiedAt
import Derived.KernelRfl
namespace Go.Proofs.YtmlaajebadfkoaaGreatDoor end Go.Proofs.YtmlaajebadfkoaaGreatDoor open Go.Proofs.YtmlaajebadfkoaaGreatDoor
namespace Go.Proofs.YtmlaajebadfkoaaGreatDoor.pTwoPacks
open Go
theorem goes:false=Rows.twoPacksRow.goesBy Tryz.checked.prog:=by kernel_rfl
end Go.Proofs.YtmlaajebadfkoaaGreatDoor.pTwoPacks

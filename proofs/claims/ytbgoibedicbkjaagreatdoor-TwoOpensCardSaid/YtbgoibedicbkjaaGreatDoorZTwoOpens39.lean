/- Facts of the statement TwoOpensSaid's card (part E). -/
import Derived.Test.YtbgoibedicbkjaaGreatDoorRows
import Derived.SevenTiedAt
import Derived.KernelRfl
namespace Go.Proofs.YtbgoibedicbkjaaGreatDoor end Go.Proofs.YtbgoibedicbkjaaGreatDoor open Go.Proofs.YtbgoibedicbkjaaGreatDoor
namespace Go.Proofs.YtbgoibedicbkjaaGreatDoor.pTwoOpens
open Go
theorem goes:false=Rows.twoOpensRow.goesBy Tryz.checked.prog:=by kernel_rfl
end Go.Proofs.YtbgoibedicbkjaaGreatDoor.pTwoOpens

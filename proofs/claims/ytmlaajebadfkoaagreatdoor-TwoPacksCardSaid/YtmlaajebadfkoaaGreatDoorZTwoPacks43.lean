/- Facts of the statement TwoPacksSaid's card (part F). -/
import Derived.Test.YtmlaajebadfkoaaGreatDoorRows
import Derived.SevenTiedAt
import Derived.KernelRfl
namespace Go.Proofs.YtmlaajebadfkoaaGreatDoor end Go.Proofs.YtmlaajebadfkoaaGreatDoor open Go.Proofs.YtmlaajebadfkoaaGreatDoor
namespace Go.Proofs.YtmlaajebadfkoaaGreatDoor.pTwoPacks
open Go
theorem trZb:OpenClaim.wfByText (OpenSpec.ofChange Rows.twoPacksSpec) Rows.twoPacksRow=true:=by kernel_rfl
theorem fnamed:Tryz.prog.funcNamed "firkin/firkinlaw22.TwoPacks"=some 3:=by kernel_rfl
end Go.Proofs.YtmlaajebadfkoaaGreatDoor.pTwoPacks

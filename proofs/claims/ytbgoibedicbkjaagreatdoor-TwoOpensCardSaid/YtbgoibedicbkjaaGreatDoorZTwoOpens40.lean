/- Facts of the statement TwoOpensSaid's card (part F). -/
import Derived.Test.YtbgoibedicbkjaaGreatDoorRows
import Derived.SevenTiedAt
import Derived.KernelRfl
namespace Go.Proofs.YtbgoibedicbkjaaGreatDoor end Go.Proofs.YtbgoibedicbkjaaGreatDoor open Go.Proofs.YtbgoibedicbkjaaGreatDoor
namespace Go.Proofs.YtbgoibedicbkjaaGreatDoor.pTwoOpens
open Go
theorem llZb:OpenClaim.wfByText (OpenSpec.ofChange Rows.twoOpensSpec) Rows.twoOpensRow=true:=by kernel_rfl
theorem fnamed:Tryz.prog.funcNamed "firkin/firkinlaw22.TwoOpens"=some 3:=by kernel_rfl
end Go.Proofs.YtbgoibedicbkjaaGreatDoor.pTwoOpens

/- Facts of the statement BodyOpensSaid's card (part F). -/
import Derived.Test.YtnpglnpfmeeboaaGreatDoorRows
import Derived.SevenTiedAt
import Derived.KernelRfl
namespace Go.Proofs.YtnpglnpfmeeboaaGreatDoor end Go.Proofs.YtnpglnpfmeeboaaGreatDoor open Go.Proofs.YtnpglnpfmeeboaaGreatDoor
namespace Go.Proofs.YtnpglnpfmeeboaaGreatDoor.pBodyOpens
open Go
theorem dkZb:OpenClaim.wfByText (OpenSpec.ofChange Rows.bodyOpensSpec) Rows.bodyOpensRow=true:=by kernel_rfl
theorem fnamed:Tryz.prog.funcNamed "firkin/firkinlaw20.BodyOpens"=some 3:=by kernel_rfl
end Go.Proofs.YtnpglnpfmeeboaaGreatDoor.pBodyOpens

/- Facts of the stateme -/
import Derived.Test.YtfgdoknipbpfhaaGreatDoorZBodyOpened1
import Derived.Test.YtfgdoknipbpfhaaGreatDoorRows
import Derived.SevenTiedAt
import Derived.KernelRfl
namespace Go.Proofs.YtfgdoknipbpfhaaGreatDoor
namespace pBodyOpened
open Go
theorem WB:OpenClaim.wfByText (OpenSpec.ofChange Rows.bodyOpenedSpec) Rows.bodyOpenedRow=true:=mr
theorem fnamed:Tryz.prog.funcNamed "firkin/firkinlaw20.BodyOpened"=some 7:=mr
end pBodyOpened
end Go.Proofs.YtfgdoknipbpfhaaGreatDoor

/- Facts of the stateme -/
import Derived.Test.YtfgdoknipbpfhaaGreatDoorZBodyIndex1
import Derived.Test.YtfgdoknipbpfhaaGreatDoorRows
import Derived.SevenTiedAt
import Derived.KernelRfl
namespace Go.Proofs.YtfgdoknipbpfhaaGreatDoor
namespace pBodyIndex
open Go
theorem WT:OpenClaim.wfByText (OpenSpec.ofChange Rows.bodyIndexSpec) Rows.bodyIndexRow=true:=ni
theorem fnamed:Tryz.prog.funcNamed "firkin/firkinlaw20.BodyIndex"=some 5:=ni
end pBodyIndex
end Go.Proofs.YtfgdoknipbpfhaaGreatDoor

/- Facts of the stateme -/
import Derived.Test.YtfgdoknipbpfhaaGreatDoorZBodyBlocks1
import Derived.Test.YtfgdoknipbpfhaaGreatDoorRows
import Derived.SevenTiedAt
import Derived.KernelRfl
namespace Go.Proofs.YtfgdoknipbpfhaaGreatDoor
namespace pBodyBlocks
open Go
theorem jB:OpenClaim.wfByText (OpenSpec.ofChange Rows.bodyBlocksSpec) Rows.bodyBlocksRow=true:=mr
theorem fnamed:Tryz.prog.funcNamed "firkin/firkinlaw20.BodyBlocks"=some 3:=mr
end pBodyBlocks
end Go.Proofs.YtfgdoknipbpfhaaGreatDoor

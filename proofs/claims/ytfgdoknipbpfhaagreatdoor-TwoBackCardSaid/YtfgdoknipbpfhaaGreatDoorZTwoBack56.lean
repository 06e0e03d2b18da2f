/- Facts of the stateme -/
import Derived.Test.YtfgdoknipbpfhaaGreatDoorZTwoBack1
import Derived.Test.YtfgdoknipbpfhaaGreatDoorRows
import Derived.SevenTiedAt
import Derived.KernelRfl
namespace Go.Proofs.YtfgdoknipbpfhaaGreatDoor
namespace pTwoBack
open Go
theorem oA:OpenClaim.wfByText (OpenSpec.ofChange Rows.twoBackSpec) Rows.twoBackRow=true:=my
theorem fnamed:Tryz.prog.funcNamed "firkin/firkinlaw22.TwoBack"=some 9:=my
end pTwoBack
end Go.Proofs.YtfgdoknipbpfhaaGreatDoor

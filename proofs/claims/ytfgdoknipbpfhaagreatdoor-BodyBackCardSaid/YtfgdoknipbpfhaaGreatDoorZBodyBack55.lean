/- Facts of the stateme -/
import Derived.Test.YtfgdoknipbpfhaaGreatDoorZBodyBack1
import Derived.Test.YtfgdoknipbpfhaaGreatDoorRows
import Derived.SevenTiedAt
import Derived.KernelRfl
namespace Go.Proofs.YtfgdoknipbpfhaaGreatDoor
namespace pBodyBack
open Go
theorem ZH:OpenClaim.wfByText (OpenSpec.ofChange Rows.bodyBackSpec) Rows.bodyBackRow=true:=my
theorem fnamed:Tryz.prog.funcNamed "firkin/firkinlaw20.BodyBack"=some 4:=my
end pBodyBack
end Go.Proofs.YtfgdoknipbpfhaaGreatDoor

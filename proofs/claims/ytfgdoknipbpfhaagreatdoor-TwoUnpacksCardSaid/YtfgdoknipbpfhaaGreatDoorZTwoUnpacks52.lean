/- Facts of the stateme -/
import Derived.Test.YtfgdoknipbpfhaaGreatDoorZTwoUnpacks1
import Derived.Test.YtfgdoknipbpfhaaGreatDoorRows
import Derived.SevenTiedAt
import Derived.KernelRfl
namespace Go.Proofs.YtfgdoknipbpfhaaGreatDoor
namespace pTwoUnpacks
open Go
theorem ZA:OpenClaim.wfByText (OpenSpec.ofChange Rows.twoUnpacksSpec) Rows.twoUnpacksRow=true:=kG
theorem fnamed:Tryz.prog.funcNamed "firkin/firkinlaw22.TwoUnpacks"=some 8:=kG
end pTwoUnpacks
end Go.Proofs.YtfgdoknipbpfhaaGreatDoor

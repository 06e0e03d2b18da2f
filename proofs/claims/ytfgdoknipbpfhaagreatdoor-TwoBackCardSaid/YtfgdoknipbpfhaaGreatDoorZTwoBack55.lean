/- Facts of the stateme -/
import Derived.Test.YtfgdoknipbpfhaaGreatDoorZTwoBack1
import Derived.Test.YtfgdoknipbpfhaaGreatDoorRows
import Derived.SevenTiedAt
import Derived.KernelRfl
namespace Go.Proofs.YtfgdoknipbpfhaaGreatDoor
namespace pTwoBack
open Go
theorem goes:false=Rows.twoBackRow.goesBy Tryz.checked.prog:=my
end pTwoBack
end Go.Proofs.YtfgdoknipbpfhaaGreatDoor

/- Facts of the stateme -/
import Derived.Test.YtfgdoknipbpfhaaGreatDoorZBodyBack1
import Derived.Test.YtfgdoknipbpfhaaGreatDoorRows
import Derived.SevenTiedAt
import Derived.KernelRfl
namespace Go.Proofs.YtfgdoknipbpfhaaGreatDoor
namespace pBodyBack
open Go
theorem goes:false=Rows.bodyBackRow.goesBy Tryz.checked.prog:=my
end pBodyBack
end Go.Proofs.YtfgdoknipbpfhaaGreatDoor

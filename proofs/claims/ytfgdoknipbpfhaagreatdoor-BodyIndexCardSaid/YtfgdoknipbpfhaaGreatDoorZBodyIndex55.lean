/- Facts of the stateme -/
import Derived.Test.YtfgdoknipbpfhaaGreatDoorZBodyIndex1
import Derived.Test.YtfgdoknipbpfhaaGreatDoorRows
import Derived.SevenTiedAt
import Derived.KernelRfl
namespace Go.Proofs.YtfgdoknipbpfhaaGreatDoor
namespace pBodyIndex
open Go
theorem goes:false=Rows.bodyIndexRow.goesBy Tryz.checked.prog:=ni
end pBodyIndex
end Go.Proofs.YtfgdoknipbpfhaaGreatDoor

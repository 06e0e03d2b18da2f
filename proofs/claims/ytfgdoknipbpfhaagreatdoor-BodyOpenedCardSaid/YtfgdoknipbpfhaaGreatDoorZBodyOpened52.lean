/- Facts of the stateme -/
import Derived.Test.YtfgdoknipbpfhaaGreatDoorZBodyOpened1
import Derived.Test.YtfgdoknipbpfhaaGreatDoorRows
import Derived.SevenTiedAt
import Derived.KernelRfl
namespace Go.Proofs.YtfgdoknipbpfhaaGreatDoor
namespace pBodyOpened
open Go
theorem goes:false=Rows.bodyOpenedRow.goesBy Tryz.checked.prog:=mr
end pBodyOpened
end Go.Proofs.YtfgdoknipbpfhaaGreatDoor

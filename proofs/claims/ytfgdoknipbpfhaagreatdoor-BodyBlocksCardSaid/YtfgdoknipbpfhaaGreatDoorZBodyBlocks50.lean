/- Facts of the stateme -/
import Derived.Test.YtfgdoknipbpfhaaGreatDoorZBodyBlocks1
import Derived.Test.YtfgdoknipbpfhaaGreatDoorRows
import Derived.SevenTiedAt
import Derived.KernelRfl
namespace Go.Proofs.YtfgdoknipbpfhaaGreatDoor
namespace pBodyBlocks
open Go
theorem goes:false=Rows.bodyBlocksRow.goesBy Tryz.checked.prog:=mr
end pBodyBlocks
end Go.Proofs.YtfgdoknipbpfhaaGreatDoor

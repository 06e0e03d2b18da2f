/- Facts of the stateme -/
import Derived.Test.YtfgdoknipbpfhaaGreatDoorZTwoUnpacks1
import Derived.Test.YtfgdoknipbpfhaaGreatDoorRows
import Derived.SevenTiedAt
import Derived.KernelRfl
namespace Go.Proofs.YtfgdoknipbpfhaaGreatDoor
namespace pTwoUnpacks
open Go
theorem goes:false=Rows.twoUnpacksRow.goesBy Tryz.checked.prog:=kG
end pTwoUnpacks
end Go.Proofs.YtfgdoknipbpfhaaGreatDoor

/- A fact of the progra -/
import Derived.Test.YtfgdoknipbpfhaaGreatDoorZBodyOpened1
import Derived.Test.YtfgdoknipbpfhaaGreatDoorChecked
import Derived.SevenTiedAt
import Derived.KernelRfl
namespace Go.Proofs.YtfgdoknipbpfhaaGreatDoor
namespace Facts
theorem looks:false=Tryz.checked.prog.looks []:=mr
end Facts
end Go.Proofs.YtfgdoknipbpfhaaGreatDoor

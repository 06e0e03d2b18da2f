/- A fact of the progra -/
import Derived.Test.YtfgdoknipbpfhaaGreatDoorZTwoBack1
import Derived.Test.YtfgdoknipbpfhaaGreatDoorChecked
import Derived.SevenTiedAt
import Derived.KernelRfl
namespace Go.Proofs.YtfgdoknipbpfhaaGreatDoor
namespace Facts
theorem looks:false=Tryz.checked.prog.looks []:=my
end Facts
end Go.Proofs.YtfgdoknipbpfhaaGreatDoor

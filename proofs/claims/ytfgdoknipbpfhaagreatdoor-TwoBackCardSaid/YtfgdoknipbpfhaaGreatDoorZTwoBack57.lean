/- A fact of the progra -/
import Derived.Test.YtfgdoknipbpfhaaGreatDoorZTwoBack1
import Derived.Test.YtfgdoknipbpfhaaGreatDoorChecked
import Derived.SevenTiedAt
import Derived.KernelRfl
namespace Go.Proofs.YtfgdoknipbpfhaaGreatDoor
namespace Facts
theorem mainIs:Tryz.checked.prog.mainIs=some (true,"0f264bfd106c4f20364da291ebc86afdc8166c318542d60f45645406460657ae".toList):=my
end Facts
end Go.Proofs.YtfgdoknipbpfhaaGreatDoor

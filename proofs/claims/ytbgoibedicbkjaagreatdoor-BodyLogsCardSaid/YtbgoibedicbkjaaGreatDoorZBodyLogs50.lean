/- A fact of the progra -/
import Derived.Test.YtbgoibedicbkjaaGreatDoorChecked
import Derived.SevenTiedAt
import Derived.KernelRfl
namespace Go.Proofs.YtbgoibedicbkjaaGreatDoor
namespace Facts
theorem mainIs:Tryz.checked.prog.mainIs=some (true,"38ac4c111bb77bf1d4556f891271aac32f53d0cdba9a82abb741016b3a5208fc".toList):=by kernel_rfl
end Facts
end Go.Proofs.YtbgoibedicbkjaaGreatDoor

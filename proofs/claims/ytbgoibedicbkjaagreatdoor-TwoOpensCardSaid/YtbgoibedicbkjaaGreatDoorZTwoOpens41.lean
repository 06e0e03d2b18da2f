/- A fact of the program that every card asks: its main's sum. -/
import Derived.Test.YtbgoibedicbkjaaGreatDoorChecked
import Derived.SevenTiedAt
import Derived.KernelRfl
namespace Go.Proofs.YtbgoibedicbkjaaGreatDoor end Go.Proofs.YtbgoibedicbkjaaGreatDoor open Go.Proofs.YtbgoibedicbkjaaGreatDoor
namespace Go.Proofs.YtbgoibedicbkjaaGreatDoor.Facts
theorem mainIs:Tryz.checked.prog.mainIs=some (true,"38ac4c111bb77bf1d4556f891271aac32f53d0cdba9a82abb741016b3a5208fc".toList):=by kernel_rfl
end Go.Proofs.YtbgoibedicbkjaaGreatDoor.Facts

/- A fact of the program that every card asks: its main's sum. -/
import Derived.Test.YtnpglnpfmeeboaaGreatDoorChecked
import Derived.SevenTiedAt
import Derived.KernelRfl
namespace Go.Proofs.YtnpglnpfmeeboaaGreatDoor end Go.Proofs.YtnpglnpfmeeboaaGreatDoor open Go.Proofs.YtnpglnpfmeeboaaGreatDoor
namespace Go.Proofs.YtnpglnpfmeeboaaGreatDoor.Facts
theorem mainIs:Tryz.checked.prog.mainIs=some (true,"b08388ee7aefdfbb73fa300929705ad856fc4e1cdc0366243e49450f3c931f2f".toList):=by kernel_rfl
end Go.Proofs.YtnpglnpfmeeboaaGreatDoor.Facts

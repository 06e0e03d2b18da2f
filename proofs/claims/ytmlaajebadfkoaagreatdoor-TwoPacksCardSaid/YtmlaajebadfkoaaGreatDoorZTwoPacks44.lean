/- A fact of the program that every card asks: its main's sum. -/
import Derived.Test.YtmlaajebadfkoaaGreatDoorChecked
import Derived.SevenTiedAt
import Derived.KernelRfl
namespace Go.Proofs.YtmlaajebadfkoaaGreatDoor end Go.Proofs.YtmlaajebadfkoaaGreatDoor open Go.Proofs.YtmlaajebadfkoaaGreatDoor
namespace Go.Proofs.YtmlaajebadfkoaaGreatDoor.Facts
theorem mainIs:Tryz.checked.prog.mainIs=some (true,"6e277ac5a5256b299fac611252a4b9dc6aa3e3942da579c6d872bbb033cd01f5".toList):=by kernel_rfl
end Go.Proofs.YtmlaajebadfkoaaGreatDoor.Facts

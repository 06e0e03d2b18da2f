/- A fact of the program that every card asks: it looks at nothing outsid -/
import Derived.Test.YtnpglnpfmeeboaaGreatDoorChecked
import Derived.SevenTiedAt
import Derived.KernelRfl
namespace Go.Proofs.YtnpglnpfmeeboaaGreatDoor end Go.Proofs.YtnpglnpfmeeboaaGreatDoor open Go.Proofs.YtnpglnpfmeeboaaGreatDoor
namespace Go.Proofs.YtnpglnpfmeeboaaGreatDoor.Facts
theorem looks:false=Tryz.checked.prog.looks []:=by kernel_rfl
end Go.Proofs.YtnpglnpfmeeboaaGreatDoor.Facts

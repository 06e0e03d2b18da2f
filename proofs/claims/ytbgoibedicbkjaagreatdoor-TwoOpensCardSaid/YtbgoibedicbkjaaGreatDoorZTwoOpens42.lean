/- A fact of the program that every card asks: it looks at nothing outsid -/
import Derived.Test.YtbgoibedicbkjaaGreatDoorChecked
import Derived.SevenTiedAt
import Derived.KernelRfl
namespace Go.Proofs.YtbgoibedicbkjaaGreatDoor end Go.Proofs.YtbgoibedicbkjaaGreatDoor open Go.Proofs.YtbgoibedicbkjaaGreatDoor
namespace Go.Proofs.YtbgoibedicbkjaaGreatDoor.Facts
theorem looks:false=Tryz.checked.prog.looks []:=by kernel_rfl
end Go.Proofs.YtbgoibedicbkjaaGreatDoor.Facts

/- A fact of the program that every card asks: it looks at nothing outsid -/
import Derived.Test.YtmlaajebadfkoaaGreatDoorChecked
import Derived.SevenTiedAt
import Derived.KernelRfl
namespace Go.Proofs.YtmlaajebadfkoaaGreatDoor end Go.Proofs.YtmlaajebadfkoaaGreatDoor open Go.Proofs.YtmlaajebadfkoaaGreatDoor
namespace Go.Proofs.YtmlaajebadfkoaaGreatDoor.Facts
theorem looks:false=Tryz.checked.prog.looks []:=by kernel_rfl
end Go.Proofs.YtmlaajebadfkoaaGreatDoor.Facts

/- A fact of the progra -/
import Derived.Test.YtbgoibedicbkjaaGreatDoorChecked
import Derived.SevenTiedAt
import Derived.KernelRfl
namespace Go.Proofs.YtbgoibedicbkjaaGreatDoor
namespace Facts
theorem looks:false=Tryz.checked.prog.looks []:=by kernel_rfl
end Facts
end Go.Proofs.YtbgoibedicbkjaaGreatDoor

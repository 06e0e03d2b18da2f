/-
  A fact of the program that every card asks: it looks at nothing outside.
-/
import Derived.Test.YtmgjgkdbagbleaaGreatDoorChecked
import Derived.SevenTiedAt
import Derived.KernelRfl
namespace Go.Proofs.YtmgjgkdbagbleaaGreatDoor.Facts
theorem looks : false = Tryz.checked.prog.looks [] := by kernel_rfl
end Go.Proofs.YtmgjgkdbagbleaaGreatDoor.Facts

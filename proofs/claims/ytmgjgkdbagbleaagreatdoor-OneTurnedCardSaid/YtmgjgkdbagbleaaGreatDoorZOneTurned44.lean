/-
  A fact of the program that every card asks: its main's sum.
-/
import Derived.Test.YtmgjgkdbagbleaaGreatDoorChecked
import Derived.SevenTiedAt
import Derived.KernelRfl
namespace Go.Proofs.YtmgjgkdbagbleaaGreatDoor.Facts
theorem mainIs : Tryz.checked.prog.mainIs = some (true, "c72aa446f060dcd4b180fce9cfbf5b23bcc795995bdd20b1414f439a8434b3de".toList) := by kernel_rfl
end Go.Proofs.YtmgjgkdbagbleaaGreatDoor.Facts

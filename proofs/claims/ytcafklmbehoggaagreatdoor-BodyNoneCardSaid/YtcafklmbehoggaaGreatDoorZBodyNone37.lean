/-
  A fact of the program that every card asks: it looks at nothing outside.
-/
import Derived.Test.YtcafklmbehoggaaGreatDoorChecked
import Derived.SevenTiedAt
import Derived.KernelRfl
namespace Go.Proofs.YtcafklmbehoggaaGreatDoor.Facts
theorem looks : false = Tryz.checked.prog.looks [] := by kernel_rfl
end Go.Proofs.YtcafklmbehoggaaGreatDoor.Facts

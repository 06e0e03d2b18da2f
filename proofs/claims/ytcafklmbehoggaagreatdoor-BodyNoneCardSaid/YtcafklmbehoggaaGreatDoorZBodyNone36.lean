/-
  A fact of the program that every card asks: its main's sum.
-/
import Derived.Test.YtcafklmbehoggaaGreatDoorChecked
import Derived.SevenTiedAt
import Derived.KernelRfl
namespace Go.Proofs.YtcafklmbehoggaaGreatDoor.Facts
theorem mainIs : Tryz.checked.prog.mainIs = some (true, "33c30f8576a4f8f74695319595282aabf304fc9dedcbf85fa5d20754d390f551".toList) := by kernel_rfl
end Go.Proofs.YtcafklmbehoggaaGreatDoor.Facts

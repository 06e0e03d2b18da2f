/-
  Facts of the statement OneBackSaid's card (part E).
-/
import Derived.Test.YtmgjgkdbagbleaaGreatDoorRows
import Derived.SevenTiedAt
import Derived.KernelRfl
namespace Go.Proofs.YtmgjgkdbagbleaaGreatDoor.pOneBack
open Go
theorem goes : false = Rows.oneBackRow.goesBy Tryz.checked.prog := by kernel_rfl
end Go.Proofs.YtmgjgkdbagbleaaGreatDoor.pOneBack

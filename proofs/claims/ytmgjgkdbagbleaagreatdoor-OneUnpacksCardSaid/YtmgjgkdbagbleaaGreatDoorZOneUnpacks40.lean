/-
  Facts of the statement OneUnpacksSaid's card (part E).
-/
import Derived.Test.YtmgjgkdbagbleaaGreatDoorRows
import Derived.SevenTiedAt
import Derived.KernelRfl
namespace Go.Proofs.YtmgjgkdbagbleaaGreatDoor.pOneUnpacks
open Go
theorem goes : false = Rows.oneUnpacksRow.goesBy Tryz.checked.prog := by kernel_rfl
end Go.Proofs.YtmgjgkdbagbleaaGreatDoor.pOneUnpacks

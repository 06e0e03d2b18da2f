/-
  Facts of the statement OneTurnedSaid's card (part E).
-/
import Derived.Test.YtmgjgkdbagbleaaGreatDoorRows
import Derived.SevenTiedAt
import Derived.KernelRfl
namespace Go.Proofs.YtmgjgkdbagbleaaGreatDoor.pOneTurned
open Go
theorem goes : false = Rows.oneTurnedRow.goesBy Tryz.checked.prog := by kernel_rfl
end Go.Proofs.YtmgjgkdbagbleaaGreatDoor.pOneTurned

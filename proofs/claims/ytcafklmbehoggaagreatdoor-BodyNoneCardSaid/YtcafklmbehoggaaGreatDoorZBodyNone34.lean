/-
  Facts of the statement BodyNoneSaid's card (part E).
-/
import Derived.Test.YtcafklmbehoggaaGreatDoorRows
import Derived.SevenTiedAt
import Derived.KernelRfl
namespace Go.Proofs.YtcafklmbehoggaaGreatDoor.pBodyNone
open Go
theorem goes : false = Rows.bodyNoneRow.goesBy Tryz.checked.prog := by kernel_rfl
end Go.Proofs.YtcafklmbehoggaaGreatDoor.pBodyNone

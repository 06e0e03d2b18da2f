/-
  Facts of the statement OneTurnedSaid's card (part F).
-/
import Derived.Test.YtmgjgkdbagbleaaGreatDoorRows
import Derived.SevenTiedAt
import Derived.KernelRfl
namespace Go.Proofs.YtmgjgkdbagbleaaGreatDoor.pOneTurned
open Go
theorem wfText : OpenClaim.wfByText (OpenSpec.ofChange Rows.oneTurnedSpec) Rows.oneTurnedRow = true := by kernel_rfl
theorem fnamed : Tryz.prog.funcNamed "firkin/firkinlaw21.OneTurned" = some 5 := by kernel_rfl
end Go.Proofs.YtmgjgkdbagbleaaGreatDoor.pOneTurned

/-
  Facts of the statement OneUnpacksSaid's card (part F).
-/
import Derived.Test.YtmgjgkdbagbleaaGreatDoorRows
import Derived.SevenTiedAt
import Derived.KernelRfl
namespace Go.Proofs.YtmgjgkdbagbleaaGreatDoor.pOneUnpacks
open Go
theorem wfText : OpenClaim.wfByText (OpenSpec.ofChange Rows.oneUnpacksSpec) Rows.oneUnpacksRow = true := by kernel_rfl
theorem fnamed : Tryz.prog.funcNamed "firkin/firkinlaw21.OneUnpacks" = some 3 := by kernel_rfl
end Go.Proofs.YtmgjgkdbagbleaaGreatDoor.pOneUnpacks

/-
  Facts of the statement OneBackSaid's card (part F).
-/
import Derived.Test.YtmgjgkdbagbleaaGreatDoorRows
import Derived.SevenTiedAt
import Derived.KernelRfl
namespace Go.Proofs.YtmgjgkdbagbleaaGreatDoor.pOneBack
open Go
theorem wfText : OpenClaim.wfByText (OpenSpec.ofChange Rows.oneBackSpec) Rows.oneBackRow = true := by kernel_rfl
theorem fnamed : Tryz.prog.funcNamed "firkin/firkinlaw21.OneBack" = some 4 := by kernel_rfl
end Go.Proofs.YtmgjgkdbagbleaaGreatDoor.pOneBack

/-
  Facts of the statement BodyNoneSaid's card (part F).
-/
import Derived.Test.YtcafklmbehoggaaGreatDoorRows
import Derived.SevenTiedAt
import Derived.KernelRfl
namespace Go.Proofs.YtcafklmbehoggaaGreatDoor.pBodyNone
open Go
theorem wfText : OpenClaim.wfByText (OpenSpec.ofChange Rows.bodyNoneSpec) Rows.bodyNoneRow = true := by kernel_rfl
theorem fnamed : Tryz.prog.funcNamed "firkin/firkinlaw20.BodyNone" = some 5 := by kernel_rfl
end Go.Proofs.YtcafklmbehoggaaGreatDoor.pBodyNone

/- Facts of the statement BodyMakesSaid's card (part F). -/
import Derived.Test.YtcafklmbehoggaaGreatDoorRows
import Derived.SevenTiedAt
import Derived.KernelRfl
namespace Go.Proofs.YtcafklmbehoggaaGreatDoor end Go.Proofs.YtcafklmbehoggaaGreatDoor open Go.Proofs.YtcafklmbehoggaaGreatDoor
namespace Go.Proofs.YtcafklmbehoggaaGreatDoor.pBodyMakes
open Go
theorem wfText:OpenClaim.wfByText (OpenSpec.ofChange Rows.bodyMakesSpec) Rows.bodyMakesRow=true:=by kernel_rfl
theorem fnamed:Tryz.prog.funcNamed "firkin/firkinlaw20.BodyMakes"=some 3:=by kernel_rfl
end Go.Proofs.YtcafklmbehoggaaGreatDoor.pBodyMakes

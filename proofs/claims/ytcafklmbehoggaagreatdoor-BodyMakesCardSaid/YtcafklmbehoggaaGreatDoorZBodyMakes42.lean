/- Facts of the statement BodyMakesSaid's card (part E). -/
import Derived.Test.YtcafklmbehoggaaGreatDoorRows
import Derived.SevenTiedAt
import Derived.KernelRfl
namespace Go.Proofs.YtcafklmbehoggaaGreatDoor end Go.Proofs.YtcafklmbehoggaaGreatDoor open Go.Proofs.YtcafklmbehoggaaGreatDoor
namespace Go.Proofs.YtcafklmbehoggaaGreatDoor.pBodyMakes
open Go
theorem goes:false=Rows.bodyMakesRow.goesBy Tryz.checked.prog:=by kernel_rfl
end Go.Proofs.YtcafklmbehoggaaGreatDoor.pBodyMakes

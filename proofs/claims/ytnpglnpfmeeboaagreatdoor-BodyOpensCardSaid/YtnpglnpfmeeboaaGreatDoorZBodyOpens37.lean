/- Facts of the statement BodyOpensSaid's card (part E). -/
import Derived.Test.YtnpglnpfmeeboaaGreatDoorRows
import Derived.SevenTiedAt
import Derived.KernelRfl
namespace Go.Proofs.YtnpglnpfmeeboaaGreatDoor end Go.Proofs.YtnpglnpfmeeboaaGreatDoor open Go.Proofs.YtnpglnpfmeeboaaGreatDoor
namespace Go.Proofs.YtnpglnpfmeeboaaGreatDoor.pBodyOpens
open Go
theorem goes:false=Rows.bodyOpensRow.goesBy Tryz.checked.prog:=by kernel_rfl
end Go.Proofs.YtnpglnpfmeeboaaGreatDoor.pBodyOpens

/- Facts of the stateme -/
import Derived.Test.YtbgoibedicbkjaaGreatDoorRows
import Derived.SevenTiedAt
import Derived.KernelRfl
namespace Go.Proofs.YtbgoibedicbkjaaGreatDoor
namespace pBodyLogs
open Go
theorem goes:false=Rows.bodyLogsRow.goesBy Tryz.checked.prog:=by kernel_rfl
end pBodyLogs
end Go.Proofs.YtbgoibedicbkjaaGreatDoor

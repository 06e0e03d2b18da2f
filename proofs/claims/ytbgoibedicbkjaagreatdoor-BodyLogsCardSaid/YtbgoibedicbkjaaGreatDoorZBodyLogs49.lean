/- Facts of the stateme -/
import Derived.Test.YtbgoibedicbkjaaGreatDoorRows
import Derived.SevenTiedAt
import Derived.KernelRfl
namespace Go.Proofs.YtbgoibedicbkjaaGreatDoor
namespace pBodyLogs
open Go
theorem Th:OpenClaim.wfByText (OpenSpec.ofChange Rows.bodyLogsSpec) Rows.bodyLogsRow=true:=by kernel_rfl
theorem fnamed:Tryz.prog.funcNamed "firkin/firkinlaw20.BodyLogs"=some 5:=by kernel_rfl
end pBodyLogs
end Go.Proofs.YtbgoibedicbkjaaGreatDoor

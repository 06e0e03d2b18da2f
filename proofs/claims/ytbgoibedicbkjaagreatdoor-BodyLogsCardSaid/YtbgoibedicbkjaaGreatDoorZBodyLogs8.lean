/- Facts of the stateme -/
import Derived.Test.YtbgoibedicbkjaaGreatDoorRows
import Derived.JoinedOf
import Derived.KernelRfl
namespace Go.Proofs.YtbgoibedicbkjaaGreatDoor
namespace pBodyLogs
theorem recurses:(Rows.bodyLogsRow.recurses==Tryz.prog.recurses 5)=true:=by kernel_rfl
theorem named:(Rows.bodyLogsRow.named==Tryz.prog.varsNamed 5)=true:=by kernel_rfl
end pBodyLogs
end Go.Proofs.YtbgoibedicbkjaaGreatDoor

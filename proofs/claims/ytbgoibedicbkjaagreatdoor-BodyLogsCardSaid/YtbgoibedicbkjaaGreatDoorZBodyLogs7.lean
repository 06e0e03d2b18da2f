/- Facts of the stateme -/
import Derived.Test.YtbgoibedicbkjaaGreatDoorRows
import Derived.JoinedOf
import Derived.KernelRfl
namespace Go.Proofs.YtbgoibedicbkjaaGreatDoor
namespace pBodyLogs
theorem inPlace:(Rows.bodyLogsRow.inPlace==Tryz.prog.inPlace 5)=true:=by kernel_rfl
theorem unfollowed:(Rows.bodyLogsRow.unfollowed==Tryz.prog.unfollowed 5)=true:=by kernel_rfl
end pBodyLogs
end Go.Proofs.YtbgoibedicbkjaaGreatDoor

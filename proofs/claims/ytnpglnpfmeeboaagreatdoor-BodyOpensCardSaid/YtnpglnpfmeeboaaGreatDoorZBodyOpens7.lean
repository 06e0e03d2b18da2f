/- Facts of the statement BodyOpensSaid: on the graph of calls (part A). -/
import Derived.Test.YtnpglnpfmeeboaaGreatDoorRows
import Derived.JoinedOf
import Derived.KernelRfl
namespace Go.Proofs.YtnpglnpfmeeboaaGreatDoor end Go.Proofs.YtnpglnpfmeeboaaGreatDoor open Go.Proofs.YtnpglnpfmeeboaaGreatDoor
namespace Go.Proofs.YtnpglnpfmeeboaaGreatDoor.pBodyOpens
theorem inPlace:(Rows.bodyOpensRow.inPlace==Tryz.prog.inPlace 3)=true:=by kernel_rfl
theorem unfollowed:(Rows.bodyOpensRow.unfollowed==Tryz.prog.unfollowed 3)=true:=by kernel_rfl
end Go.Proofs.YtnpglnpfmeeboaaGreatDoor.pBodyOpens

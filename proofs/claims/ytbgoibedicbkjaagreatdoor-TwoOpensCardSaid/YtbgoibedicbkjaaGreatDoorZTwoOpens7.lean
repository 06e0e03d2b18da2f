/- Facts of the statement TwoOpensSaid: on the graph of calls (part A). -/
import Derived.Test.YtbgoibedicbkjaaGreatDoorRows
import Derived.JoinedOf
import Derived.KernelRfl
namespace Go.Proofs.YtbgoibedicbkjaaGreatDoor end Go.Proofs.YtbgoibedicbkjaaGreatDoor open Go.Proofs.YtbgoibedicbkjaaGreatDoor
namespace Go.Proofs.YtbgoibedicbkjaaGreatDoor.pTwoOpens
theorem inPlace:(Rows.twoOpensRow.inPlace==Tryz.prog.inPlace 3)=true:=by kernel_rfl
theorem unfollowed:(Rows.twoOpensRow.unfollowed==Tryz.prog.unfollowed 3)=true:=by kernel_rfl
end Go.Proofs.YtbgoibedicbkjaaGreatDoor.pTwoOpens

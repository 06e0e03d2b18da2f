/- Facts of the statement TwoPacksSaid: on the graph of calls (part A). -/
import Derived.Test.YtmlaajebadfkoaaGreatDoorRows
import Derived.JoinedOf
import Derived.KernelRfl
namespace Go.Proofs.YtmlaajebadfkoaaGreatDoor end Go.Proofs.YtmlaajebadfkoaaGreatDoor open Go.Proofs.YtmlaajebadfkoaaGreatDoor
namespace Go.Proofs.YtmlaajebadfkoaaGreatDoor.pTwoPacks
theorem inPlace:(Rows.twoPacksRow.inPlace==Tryz.prog.inPlace 3)=true:=by kernel_rfl
theorem unfollowed:(Rows.twoPacksRow.unfollowed==Tryz.prog.unfollowed 3)=true:=by kernel_rfl
end Go.Proofs.YtmlaajebadfkoaaGreatDoor.pTwoPacks

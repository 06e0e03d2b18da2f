/- Facts of the statement TwoPacksSaid: on the graph of calls (part B). -/
import Derived.Test.YtmlaajebadfkoaaGreatDoorRows
import Derived.JoinedOf
import Derived.KernelRfl
namespace Go.Proofs.YtmlaajebadfkoaaGreatDoor end Go.Proofs.YtmlaajebadfkoaaGreatDoor open Go.Proofs.YtmlaajebadfkoaaGreatDoor
namespace Go.Proofs.YtmlaajebadfkoaaGreatDoor.pTwoPacks
theorem recurses:(Rows.twoPacksRow.recurses==Tryz.prog.recurses 3)=true:=by kernel_rfl
theorem named:(Rows.twoPacksRow.named==Tryz.prog.varsNamed 3)=true:=by kernel_rfl
end Go.Proofs.YtmlaajebadfkoaaGreatDoor.pTwoPacks

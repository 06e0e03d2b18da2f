/- Facts of the statement TwoOpensSaid: on the graph of calls (part B). -/
import Derived.Test.YtbgoibedicbkjaaGreatDoorRows
import Derived.JoinedOf
import Derived.KernelRfl
namespace Go.Proofs.YtbgoibedicbkjaaGreatDoor end Go.Proofs.YtbgoibedicbkjaaGreatDoor open Go.Proofs.YtbgoibedicbkjaaGreatDoor
namespace Go.Proofs.YtbgoibedicbkjaaGreatDoor.pTwoOpens
theorem recurses:(Rows.twoOpensRow.recurses==Tryz.prog.recurses 3)=true:=by kernel_rfl
theorem named:(Rows.twoOpensRow.named==Tryz.prog.varsNamed 3)=true:=by kernel_rfl
end Go.Proofs.YtbgoibedicbkjaaGreatDoor.pTwoOpens

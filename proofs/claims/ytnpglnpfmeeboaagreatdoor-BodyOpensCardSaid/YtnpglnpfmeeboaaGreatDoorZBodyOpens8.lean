/- Facts of the statement BodyOpensSaid: on the graph of calls (part B). -/
import Derived.Test.YtnpglnpfmeeboaaGreatDoorRows
import Derived.JoinedOf
import Derived.KernelRfl
namespace Go.Proofs.YtnpglnpfmeeboaaGreatDoor end Go.Proofs.YtnpglnpfmeeboaaGreatDoor open Go.Proofs.YtnpglnpfmeeboaaGreatDoor
namespace Go.Proofs.YtnpglnpfmeeboaaGreatDoor.pBodyOpens
theorem recurses:(Rows.bodyOpensRow.recurses==Tryz.prog.recurses 3)=true:=by kernel_rfl
theorem named:(Rows.bodyOpensRow.named==Tryz.prog.varsNamed 3)=true:=by kernel_rfl
end Go.Proofs.YtnpglnpfmeeboaaGreatDoor.pBodyOpens

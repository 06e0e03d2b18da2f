/- Facts of the statement BodyMakesSaid: on the graph of calls (part B). -/
import Derived.Test.YtcafklmbehoggaaGreatDoorRows
import Derived.JoinedOf
import Derived.KernelRfl
namespace Go.Proofs.YtcafklmbehoggaaGreatDoor end Go.Proofs.YtcafklmbehoggaaGreatDoor open Go.Proofs.YtcafklmbehoggaaGreatDoor
namespace Go.Proofs.YtcafklmbehoggaaGreatDoor.pBodyMakes
theorem recurses:(Rows.bodyMakesRow.recurses==Tryz.prog.recurses 3)=true:=by kernel_rfl
theorem named:(Rows.bodyMakesRow.named==Tryz.prog.varsNamed 3)=true:=by kernel_rfl
end Go.Proofs.YtcafklmbehoggaaGreatDoor.pBodyMakes

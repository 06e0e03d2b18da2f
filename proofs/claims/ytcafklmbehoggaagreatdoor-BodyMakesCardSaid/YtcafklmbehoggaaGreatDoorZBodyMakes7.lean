/- Facts of the statement BodyMakesSaid: on the graph of calls (part A). -/
import Derived.Test.YtcafklmbehoggaaGreatDoorRows
import Derived.JoinedOf
import Derived.KernelRfl
namespace Go.Proofs.YtcafklmbehoggaaGreatDoor end Go.Proofs.YtcafklmbehoggaaGreatDoor open Go.Proofs.YtcafklmbehoggaaGreatDoor
namespace Go.Proofs.YtcafklmbehoggaaGreatDoor.pBodyMakes
theorem inPlace:(Rows.bodyMakesRow.inPlace==Tryz.prog.inPlace 3)=true:=by kernel_rfl
theorem unfollowed:(Rows.bodyMakesRow.unfollowed==Tryz.prog.unfollowed 3)=true:=by kernel_rfl
end Go.Proofs.YtcafklmbehoggaaGreatDoor.pBodyMakes

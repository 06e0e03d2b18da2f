/-
  Facts of the statement BodyNoneSaid: on the graph of calls (part A).
-/
import Derived.Test.YtcafklmbehoggaaGreatDoorRows
import Derived.JoinedOf
import Derived.KernelRfl
namespace Go.Proofs.YtcafklmbehoggaaGreatDoor.pBodyNone
theorem inPlace : (Rows.bodyNoneRow.inPlace == Tryz.prog.inPlace 5) = true := by kernel_rfl
theorem unfollowed : (Rows.bodyNoneRow.unfollowed == Tryz.prog.unfollowed 5) = true := by kernel_rfl
end Go.Proofs.YtcafklmbehoggaaGreatDoor.pBodyNone

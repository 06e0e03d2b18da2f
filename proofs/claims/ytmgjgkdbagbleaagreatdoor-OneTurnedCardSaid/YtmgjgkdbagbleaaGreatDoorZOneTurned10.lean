/-
  Facts of the statement OneTurnedSaid: on the graph of calls (part A).
-/
import Derived.Test.YtmgjgkdbagbleaaGreatDoorRows
import Derived.JoinedOf
import Derived.KernelRfl
namespace Go.Proofs.YtmgjgkdbagbleaaGreatDoor.pOneTurned
theorem inPlace : (Rows.oneTurnedRow.inPlace == Tryz.prog.inPlace 5) = true := by kernel_rfl
theorem unfollowed : (Rows.oneTurnedRow.unfollowed == Tryz.prog.unfollowed 5) = true := by kernel_rfl
end Go.Proofs.YtmgjgkdbagbleaaGreatDoor.pOneTurned

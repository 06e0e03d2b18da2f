/-
  Facts of the statement OneBackSaid: on the graph of calls (part A).
-/
import Derived.Test.YtmgjgkdbagbleaaGreatDoorRows
import Derived.JoinedOf
import Derived.KernelRfl
namespace Go.Proofs.YtmgjgkdbagbleaaGreatDoor.pOneBack
theorem inPlace : (Rows.oneBackRow.inPlace == Tryz.prog.inPlace 4) = true := by kernel_rfl
theorem unfollowed : (Rows.oneBackRow.unfollowed == Tryz.prog.unfollowed 4) = true := by kernel_rfl
end Go.Proofs.YtmgjgkdbagbleaaGreatDoor.pOneBack

/-
  Facts of the statement OneUnpacksSaid: on the graph of calls (part A).
-/
import Derived.Test.YtmgjgkdbagbleaaGreatDoorRows
import Derived.JoinedOf
import Derived.KernelRfl
namespace Go.Proofs.YtmgjgkdbagbleaaGreatDoor.pOneUnpacks
theorem inPlace : (Rows.oneUnpacksRow.inPlace == Tryz.prog.inPlace 3) = true := by kernel_rfl
theorem unfollowed : (Rows.oneUnpacksRow.unfollowed == Tryz.prog.unfollowed 3) = true := by kernel_rfl
end Go.Proofs.YtmgjgkdbagbleaaGreatDoor.pOneUnpacks

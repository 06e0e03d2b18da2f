/-
  Facts of the statement OneUnpacksSaid: on the graph of calls (part B).
-/
import Derived.Test.YtmgjgkdbagbleaaGreatDoorRows
import Derived.JoinedOf
import Derived.KernelRfl
namespace Go.Proofs.YtmgjgkdbagbleaaGreatDoor.pOneUnpacks
theorem recurses : (Rows.oneUnpacksRow.recurses == Tryz.prog.recurses 3) = true := by kernel_rfl
theorem named : (Rows.oneUnpacksRow.named == Tryz.prog.varsNamed 3) = true := by kernel_rfl
end Go.Proofs.YtmgjgkdbagbleaaGreatDoor.pOneUnpacks

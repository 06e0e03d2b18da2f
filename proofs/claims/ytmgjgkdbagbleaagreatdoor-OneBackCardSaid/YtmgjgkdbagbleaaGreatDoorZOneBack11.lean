/-
  Facts of the statement OneBackSaid: on the graph of calls (part B).
-/
import Derived.Test.YtmgjgkdbagbleaaGreatDoorRows
import Derived.JoinedOf
import Derived.KernelRfl
namespace Go.Proofs.YtmgjgkdbagbleaaGreatDoor.pOneBack
theorem recurses : (Rows.oneBackRow.recurses == Tryz.prog.recurses 4) = true := by kernel_rfl
theorem named : (Rows.oneBackRow.named == Tryz.prog.varsNamed 4) = true := by kernel_rfl
end Go.Proofs.YtmgjgkdbagbleaaGreatDoor.pOneBack

/-
  Facts of the statement OneTurnedSaid: on the graph of calls (part B).
-/
import Derived.Test.YtmgjgkdbagbleaaGreatDoorRows
import Derived.JoinedOf
import Derived.KernelRfl
namespace Go.Proofs.YtmgjgkdbagbleaaGreatDoor.pOneTurned
theorem recurses : (Rows.oneTurnedRow.recurses == Tryz.prog.recurses 5) = true := by kernel_rfl
theorem named : (Rows.oneTurnedRow.named == Tryz.prog.varsNamed 5) = true := by kernel_rfl
end Go.Proofs.YtmgjgkdbagbleaaGreatDoor.pOneTurned

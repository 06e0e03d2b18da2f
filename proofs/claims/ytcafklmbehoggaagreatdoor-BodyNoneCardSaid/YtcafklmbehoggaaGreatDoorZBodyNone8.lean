/-
  Facts of the statement BodyNoneSaid: on the graph of calls (part B).
-/
import Derived.Test.YtcafklmbehoggaaGreatDoorRows
import Derived.JoinedOf
import Derived.KernelRfl
namespace Go.Proofs.YtcafklmbehoggaaGreatDoor.pBodyNone
theorem recurses : (Rows.bodyNoneRow.recurses == Tryz.prog.recurses 5) = true := by kernel_rfl
theorem named : (Rows.bodyNoneRow.named == Tryz.prog.varsNamed 5) = true := by kernel_rfl
end Go.Proofs.YtcafklmbehoggaaGreatDoor.pBodyNone

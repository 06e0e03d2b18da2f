/- What the last steps  -/
import Derived.Test.YtbgoibedicbkjaaGreatDoorChecked
import Derived.WalkKit
import Derived.ProofKit
import Derived.OpenShut
import Derived.ChangeOld
import Derived.Below
import Derived.SizedLaws
import Derived.Lib.SmallJoins
import Derived.Deep.Slices
import Derived.Deep.Fields
import Derived.ChangeSame
namespace Go.Proofs.YtbgoibedicbkjaaGreatDoor
namespace Lift
theorem own:ownKnob Tryz.prog.godebug=none:=by kernel_rfl
theorem laidOut:laidOutB Tryz.prog=true:=by kernel_rfl
end Lift
end Go.Proofs.YtbgoibedicbkjaaGreatDoor

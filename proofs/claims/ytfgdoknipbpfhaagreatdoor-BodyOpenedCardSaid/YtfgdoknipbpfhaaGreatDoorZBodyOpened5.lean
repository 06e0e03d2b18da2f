/- What the last steps  -/
import Derived.Test.YtfgdoknipbpfhaaGreatDoorZBodyOpened1
import Derived.Test.YtfgdoknipbpfhaaGreatDoorChecked
import Derived.WalkKit
import Derived.ProofKit
import Derived.OpenShut
import Derived.ChangeOld
import Derived.Below
import Derived.SizedLaws
import Derived.Lib.SmallJoins
import Derived.Deep.Slices
import Derived.Deep.Fields
import Derived.ChangeSame
namespace Go.Proofs.YtfgdoknipbpfhaaGreatDoor
namespace Lift
theorem own:ownKnob Tryz.prog.godebug=none:=mr
theorem laidOut:laidOutB Tryz.prog=true:=mr
end Lift
end Go.Proofs.YtfgdoknipbpfhaaGreatDoor

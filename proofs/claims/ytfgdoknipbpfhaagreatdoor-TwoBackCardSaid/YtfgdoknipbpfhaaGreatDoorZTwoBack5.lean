/- What the last steps  -/
import Derived.Test.YtfgdoknipbpfhaaGreatDoorZTwoBack1
import Derived.Test.YtfgdoknipbpfhaaGreatDoorChecked
import Derived.WalkKit
import Derived.ProofKit
import Derived.OpenShut
import Derived.ChangeOld
import Derived.Below
import Derived.SizedLaws
import Derived.Lib.SmallJoins
import Derived.Deep.Slices
import Derived.Deep.Fields
import Derived.ChangeSame
namespace Go.Proofs.YtfgdoknipbpfhaaGreatDoor
theorem Al5:ownKnob Tryz.prog.godebug=none:=my
theorem laidOut:laidOutB Tryz.prog=true:=my
end Go.Proofs.YtfgdoknipbpfhaaGreatDoor

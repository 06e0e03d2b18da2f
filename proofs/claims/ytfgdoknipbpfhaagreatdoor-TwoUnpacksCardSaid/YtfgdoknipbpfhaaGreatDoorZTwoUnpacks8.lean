/- Facts of the stateme -/
import Derived.Test.YtfgdoknipbpfhaaGreatDoorZTwoUnpacks1
import Derived.Test.YtfgdoknipbpfhaaGreatDoorRows
import Derived.JoinedOf
import Derived.KernelRfl
namespace Go.Proofs.YtfgdoknipbpfhaaGreatDoor
namespace pTwoUnpacks
theorem recurses:(Rows.twoUnpacksRow.recurses==Tryz.prog.recurses 8)=true:=kG
theorem named:(Rows.twoUnpacksRow.named==Tryz.prog.varsNamed 8)=true:=kG
end pTwoUnpacks
end Go.Proofs.YtfgdoknipbpfhaaGreatDoor

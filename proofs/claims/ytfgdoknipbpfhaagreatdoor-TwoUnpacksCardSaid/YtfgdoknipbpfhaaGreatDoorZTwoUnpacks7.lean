/- Facts of the stateme -/
import Derived.Test.YtfgdoknipbpfhaaGreatDoorZTwoUnpacks1
import Derived.Test.YtfgdoknipbpfhaaGreatDoorRows
import Derived.JoinedOf
import Derived.KernelRfl
namespace Go.Proofs.YtfgdoknipbpfhaaGreatDoor
namespace pTwoUnpacks
theorem inPlace:(Rows.twoUnpacksRow.inPlace==Tryz.prog.inPlace 8)=true:=kG
theorem unfollowed:(Rows.twoUnpacksRow.unfollowed==Tryz.prog.unfollowed 8)=true:=kG
end pTwoUnpacks
end Go.Proofs.YtfgdoknipbpfhaaGreatDoor

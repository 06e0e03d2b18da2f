/- Facts of the stateme -/
import Derived.Test.YtfgdoknipbpfhaaGreatDoorZBodyIndex1
import Derived.Test.YtfgdoknipbpfhaaGreatDoorRows
import Derived.JoinedOf
import Derived.KernelRfl
namespace Go.Proofs.YtfgdoknipbpfhaaGreatDoor
namespace pBodyIndex
theorem inPlace:(Rows.bodyIndexRow.inPlace==Tryz.prog.inPlace 5)=true:=ni
theorem unfollowed:(Rows.bodyIndexRow.unfollowed==Tryz.prog.unfollowed 5)=true:=ni
end pBodyIndex
end Go.Proofs.YtfgdoknipbpfhaaGreatDoor

/- Facts of the stateme -/
import Derived.Test.YtfgdoknipbpfhaaGreatDoorZBodyOpened1
import Derived.Test.YtfgdoknipbpfhaaGreatDoorRows
import Derived.JoinedOf
import Derived.KernelRfl
namespace Go.Proofs.YtfgdoknipbpfhaaGreatDoor
namespace pBodyOpened
theorem inPlace:(Rows.bodyOpenedRow.inPlace==Tryz.prog.inPlace 7)=true:=mr
theorem unfollowed:(Rows.bodyOpenedRow.unfollowed==Tryz.prog.unfollowed 7)=true:=mr
end pBodyOpened
end Go.Proofs.YtfgdoknipbpfhaaGreatDoor

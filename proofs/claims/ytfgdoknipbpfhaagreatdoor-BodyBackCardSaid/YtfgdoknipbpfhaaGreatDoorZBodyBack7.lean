/- Facts of the stateme -/
import Derived.Test.YtfgdoknipbpfhaaGreatDoorZBodyBack1
import Derived.Test.YtfgdoknipbpfhaaGreatDoorRows
import Derived.JoinedOf
import Derived.KernelRfl
namespace Go.Proofs.YtfgdoknipbpfhaaGreatDoor
namespace pBodyBack
theorem inPlace:(Rows.bodyBackRow.inPlace==Tryz.prog.inPlace 4)=true:=my
theorem unfollowed:(Rows.bodyBackRow.unfollowed==Tryz.prog.unfollowed 4)=true:=my
end pBodyBack
end Go.Proofs.YtfgdoknipbpfhaaGreatDoor

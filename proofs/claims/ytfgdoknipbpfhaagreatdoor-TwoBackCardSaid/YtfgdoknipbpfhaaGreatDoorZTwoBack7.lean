/- Facts of the stateme -/
import Derived.Test.YtfgdoknipbpfhaaGreatDoorZTwoBack1
import Derived.Test.YtfgdoknipbpfhaaGreatDoorRows
import Derived.JoinedOf
import Derived.KernelRfl
namespace Go.Proofs.YtfgdoknipbpfhaaGreatDoor
namespace pTwoBack
theorem inPlace:(Rows.twoBackRow.inPlace==Tryz.prog.inPlace 9)=true:=my
theorem unfollowed:(Rows.twoBackRow.unfollowed==Tryz.prog.unfollowed 9)=true:=my
end pTwoBack
end Go.Proofs.YtfgdoknipbpfhaaGreatDoor

/- Facts of the stateme -/
import Derived.Test.YtfgdoknipbpfhaaGreatDoorZTwoBack1
import Derived.Test.YtfgdoknipbpfhaaGreatDoorRows
import Derived.JoinedOf
import Derived.KernelRfl
namespace Go.Proofs.YtfgdoknipbpfhaaGreatDoor
namespace pTwoBack
theorem recurses:(Rows.twoBackRow.recurses==Tryz.prog.recurses 9)=true:=my
theorem named:(Rows.twoBackRow.named==Tryz.prog.varsNamed 9)=true:=my
end pTwoBack
end Go.Proofs.YtfgdoknipbpfhaaGreatDoor

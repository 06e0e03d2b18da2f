/- Facts of the stateme -/
import Derived.Test.YtfgdoknipbpfhaaGreatDoorZBodyBack1
import Derived.Test.YtfgdoknipbpfhaaGreatDoorRows
import Derived.JoinedOf
import Derived.KernelRfl
namespace Go.Proofs.YtfgdoknipbpfhaaGreatDoor
namespace pBodyBack
theorem recurses:(Rows.bodyBackRow.recurses==Tryz.prog.recurses 4)=true:=my
theorem named:(Rows.bodyBackRow.named==Tryz.prog.varsNamed 4)=true:=my
end pBodyBack
end Go.Proofs.YtfgdoknipbpfhaaGreatDoor

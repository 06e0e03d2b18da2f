/- Facts of the stateme -/
import Derived.Test.YtfgdoknipbpfhaaGreatDoorZBodyIndex1
import Derived.Test.YtfgdoknipbpfhaaGreatDoorRows
import Derived.JoinedOf
import Derived.KernelRfl
namespace Go.Proofs.YtfgdoknipbpfhaaGreatDoor
namespace pBodyIndex
theorem recurses:(Rows.bodyIndexRow.recurses==Tryz.prog.recurses 5)=true:=ni
theorem named:(Rows.bodyIndexRow.named==Tryz.prog.varsNamed 5)=true:=ni
end pBodyIndex
end Go.Proofs.YtfgdoknipbpfhaaGreatDoor

/- Facts of the stateme -/
import Derived.Test.YtfgdoknipbpfhaaGreatDoorZBodyOpened1
import Derived.Test.YtfgdoknipbpfhaaGreatDoorRows
import Derived.JoinedOf
import Derived.KernelRfl
namespace Go.Proofs.YtfgdoknipbpfhaaGreatDoor
namespace pBodyOpened
theorem recurses:(Rows.bodyOpenedRow.recurses==Tryz.prog.recurses 7)=true:=mr
theorem named:(Rows.bodyOpenedRow.named==Tryz.prog.varsNamed 7)=true:=mr
end pBodyOpened
end Go.Proofs.YtfgdoknipbpfhaaGreatDoor

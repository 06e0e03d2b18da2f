/- Facts of the stateme -/
import Derived.Test.YtfgdoknipbpfhaaGreatDoorZBodyBlocks1
import Derived.Test.YtfgdoknipbpfhaaGreatDoorRows
import Derived.JoinedOf
import Derived.KernelRfl
namespace Go.Proofs.YtfgdoknipbpfhaaGreatDoor
namespace pBodyBlocks
theorem recurses:(Rows.bodyBlocksRow.recurses==Tryz.prog.recurses 3)=true:=mr
theorem named:(Rows.bodyBlocksRow.named==Tryz.prog.varsNamed 3)=true:=mr
end pBodyBlocks
end Go.Proofs.YtfgdoknipbpfhaaGreatDoor

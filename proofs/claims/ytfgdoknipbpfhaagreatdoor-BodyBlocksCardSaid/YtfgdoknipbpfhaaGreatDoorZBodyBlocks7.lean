/- Facts of the stateme -/
import Derived.Test.YtfgdoknipbpfhaaGreatDoorZBodyBlocks1
import Derived.Test.YtfgdoknipbpfhaaGreatDoorRows
import Derived.JoinedOf
import Derived.KernelRfl
namespace Go.Proofs.YtfgdoknipbpfhaaGreatDoor
namespace pBodyBlocks
theorem inPlace:(Rows.bodyBlocksRow.inPlace==Tryz.prog.inPlace 3)=true:=mr
theorem unfollowed:(Rows.bodyBlocksRow.unfollowed==Tryz.prog.unfollowed 3)=true:=mr
end pBodyBlocks
end Go.Proofs.YtfgdoknipbpfhaaGreatDoor

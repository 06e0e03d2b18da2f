/- The statement BodyBlocksSaid: the walk of the law is BodyBlocks; here  -/
import Derived.Test.YtfgdoknipbpfhaaGreatDoorZBodyBlocks49
import Derived.Test.YtfgdoknipbpfhaaGreatDoorZBodyBlocks50
import Derived.Test.YtfgdoknipbpfhaaGreatDoorZBodyBlocks51
import Derived.Test.YtfgdoknipbpfhaaGreatDoorZBodyBlocks52
import Derived.Test.YtfgdoknipbpfhaaGreatDoorZBodyBlocks53
namespace Go.Proofs.YtfgdoknipbpfhaaGreatDoor
namespace pBodyBlocks
open Go.ChangeShapes Go.WideShapes Go.ChangeAt Go.RowKit Go.Joins Go.Deep Lift
theorem proved:Rows.BodyBlocksCardSaid:=
 Claim7.holds_tied_plain_at .later [] [.data] true Rows.bodyBlocksCard.stood.harness false Xg (fun _ h=>by cases h) jB (fun _ h=>by cases h) bodyBlocks_row_tie rfl ⟨rfl,rfl⟩ Facts.mainIs rfl
  (fun f fn hf hfn=>by obtain rfl:f=3:=Option.some.inj (fnamed.symm.trans hf) |>.symm;obtain rfl:fn=Tryz.f3:=(Option.some.inj (Tryz.func3.symm.trans hfn)).symm;exact⟨Facts.looks,fun j t ht=>by rw[Tryz.params3]at ht;have hm:t∈ [23,24,25]:=(by simpa using Array.mem_of_getElem? ht);have i:([23,24,25].all fun u=> !Tryz.prog.wantsStandIn u)=true:=mr;exact(show Tryz.prog.wantsStandIn t=false by simpa using FJ.1 i t hm)⟩)
  goes
#print axioms proved
end pBodyBlocks
end Go.Proofs.YtfgdoknipbpfhaaGreatDoor

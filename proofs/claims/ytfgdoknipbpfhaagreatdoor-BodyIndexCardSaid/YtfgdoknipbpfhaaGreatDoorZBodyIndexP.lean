/- The statement BodyIndexSaid: the walk of the law is BodyIndex; here it -/
import Derived.Test.YtfgdoknipbpfhaaGreatDoorZBodyIndex54
import Derived.Test.YtfgdoknipbpfhaaGreatDoorZBodyIndex55
import Derived.Test.YtfgdoknipbpfhaaGreatDoorZBodyIndex56
import Derived.Test.YtfgdoknipbpfhaaGreatDoorZBodyIndex57
import Derived.Test.YtfgdoknipbpfhaaGreatDoorZBodyIndex58
namespace Go.Proofs.YtfgdoknipbpfhaaGreatDoor
namespace pBodyIndex
open Go.ChangeShapes Go.WideShapes Go.ChangeAt Go.RowKit Go.Joins Go.Deep Lift
theorem proved:Rows.BodyIndexCardSaid:=
 Claim7.holds_tied_plain_at .later [] [.data] true Rows.bodyIndexCard.stood.harness false Yj (fun _ h=>by cases h) WT (fun _ h=>by cases h) bodyIndex_row_tie rfl ⟨rfl,rfl⟩ Facts.mainIs rfl
  (fun f fn hf hfn=>by obtain rfl:f=5:=Option.some.inj (fnamed.symm.trans hf) |>.symm;obtain rfl:fn=Tryz.f5:=(Option.some.inj (Tryz.func5.symm.trans hfn)).symm;exact⟨Facts.looks,fun j t ht=>by rw[Tryz.params5]at ht;have hm:t∈ [23,24,24]:=(by simpa using Array.mem_of_getElem? ht);have i:([23,24,24].all fun u=> !Tryz.prog.wantsStandIn u)=true:=ni;exact(show Tryz.prog.wantsStandIn t=false by simpa using EL.1 i t hm)⟩)
  goes
#print axioms proved
end pBodyIndex
end Go.Proofs.YtfgdoknipbpfhaaGreatDoor

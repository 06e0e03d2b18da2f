/- The statement BodyOpenedSaid: the walk of the law is BodyOpened; here  -/
import Derived.Test.YtfgdoknipbpfhaaGreatDoorZBodyOpened51
import Derived.Test.YtfgdoknipbpfhaaGreatDoorZBodyOpened52
import Derived.Test.YtfgdoknipbpfhaaGreatDoorZBodyOpened53
import Derived.Test.YtfgdoknipbpfhaaGreatDoorZBodyOpened54
import Derived.Test.YtfgdoknipbpfhaaGreatDoorZBodyOpened55
namespace Go.Proofs.YtfgdoknipbpfhaaGreatDoor
namespace pBodyOpened
open Go.ChangeShapes Go.WideShapes Go.ChangeAt Go.RowKit Go.Joins Go.Deep Lift
theorem proved:Rows.BodyOpenedCardSaid:=
 Claim7.holds_tied_plain_at .later [] [.data] true Rows.bodyOpenedCard.stood.harness false YG (fun _ h=>by cases h) WB (fun _ h=>by cases h) bodyOpened_row_tie rfl ⟨rfl,rfl⟩ Facts.mainIs rfl
  (fun f fn hf hfn=>by obtain rfl:f=7:=Option.some.inj (fnamed.symm.trans hf) |>.symm;obtain rfl:fn=Tryz.f7:=(Option.some.inj (Tryz.func7.symm.trans hfn)).symm;exact⟨Facts.looks,fun j t ht=>by rw[Tryz.params7]at ht;have hm:t∈ [23,24,28]:=(by simpa using Array.mem_of_getElem? ht);have i:([23,24,28].all fun u=> !Tryz.prog.wantsStandIn u)=true:=mr;exact(show Tryz.prog.wantsStandIn t=false by simpa using FW.1 i t hm)⟩)
  goes
#print axioms proved
end pBodyOpened
end Go.Proofs.YtfgdoknipbpfhaaGreatDoor

/- The statement BodyBackSaid: the walk of the law is BodyBack; here it i -/
import Derived.Test.YtfgdoknipbpfhaaGreatDoorZBodyBack53
import Derived.Test.YtfgdoknipbpfhaaGreatDoorZBodyBack54
import Derived.Test.YtfgdoknipbpfhaaGreatDoorZBodyBack55
import Derived.Test.YtfgdoknipbpfhaaGreatDoorZBodyBack56
import Derived.Test.YtfgdoknipbpfhaaGreatDoorZBodyBack57
namespace Go.Proofs.YtfgdoknipbpfhaaGreatDoor
namespace pBodyBack
open Go.ChangeShapes Go.WideShapes Go.ChangeAt Go.RowKit Go.Joins Go.Deep Lift
theorem proved:Rows.BodyBackCardSaid:=
 Claim7.holds_tied_plain_at .later [] [.data] true Rows.bodyBackCard.stood.harness false d7 (fun _ h=>by cases h) ZH (fun _ h=>by cases h) bodyBack_row_tie rfl ⟨rfl,rfl⟩ Facts.mainIs rfl
  (fun f fn hf hfn=>by obtain rfl:f=4:=Option.some.inj (fnamed.symm.trans hf) |>.symm;obtain rfl:fn=Tryz.f4:=(Option.some.inj (Tryz.func4.symm.trans hfn)).symm;exact⟨Facts.looks,fun j t ht=>by rw[Tryz.params4]at ht;have hm:t∈ [23,24]:=(by simpa using Array.mem_of_getElem? ht);have i:([23,24].all fun u=> !Tryz.prog.wantsStandIn u)=true:=my;exact(show Tryz.prog.wantsStandIn t=false by simpa using Gh.1 i t hm)⟩)
  goes
#print axioms proved
end pBodyBack
end Go.Proofs.YtfgdoknipbpfhaaGreatDoor

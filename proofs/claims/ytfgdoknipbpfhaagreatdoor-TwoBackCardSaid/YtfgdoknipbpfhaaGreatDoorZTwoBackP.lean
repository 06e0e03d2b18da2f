/- The statement TwoBackSaid: the walk of the law is TwoBack; here it is  -/
import Derived.Test.YtfgdoknipbpfhaaGreatDoorZTwoBack54
import Derived.Test.YtfgdoknipbpfhaaGreatDoorZTwoBack55
import Derived.Test.YtfgdoknipbpfhaaGreatDoorZTwoBack56
import Derived.Test.YtfgdoknipbpfhaaGreatDoorZTwoBack57
import Derived.Test.YtfgdoknipbpfhaaGreatDoorZTwoBack58
namespace Go.Proofs.YtfgdoknipbpfhaaGreatDoor
namespace pTwoBack
open Go.ChangeShapes Go.WideShapes Go.ChangeAt Go.RowKit Go.Joins Go.Deep
theorem proved:Rows.TwoBackCardSaid:=
 Claim7.holds_tied_plain_at .later [] [.data] true Rows.twoBackCard.stood.harness false fC (fun _ h=>by cases h) oA (fun _ h=>by cases h) twoBack_row_tie rfl ⟨rfl,rfl⟩ Facts.mainIs rfl
  (fun f fn hf hfn=>by obtain rfl:f=9:=Option.some.inj (fnamed.symm.trans hf) |>.symm;obtain rfl:fn=Tryz.f9:=(Option.some.inj (Tryz.func9.symm.trans hfn)).symm;exact⟨Facts.looks,fun j t ht=>by rw[Tryz.params9]at ht;have hm:t∈ [23,24]:=(by simpa using Array.mem_of_getElem? ht);have i:([23,24].all fun u=> !Tryz.prog.wantsStandIn u)=true:=my;exact(show Tryz.prog.wantsStandIn t=false by simpa using GE.1 i t hm)⟩)
  goes
#print axioms proved
end pTwoBack
end Go.Proofs.YtfgdoknipbpfhaaGreatDoor

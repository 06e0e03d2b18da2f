/- The statement TwoUnpacksSaid: the walk of the law is TwoUnpacks; here  -/
import Derived.Test.YtfgdoknipbpfhaaGreatDoorZTwoUnpacks50
import Derived.Test.YtfgdoknipbpfhaaGreatDoorZTwoUnpacks51
import Derived.Test.YtfgdoknipbpfhaaGreatDoorZTwoUnpacks52
import Derived.Test.YtfgdoknipbpfhaaGreatDoorZTwoUnpacks53
import Derived.Test.YtfgdoknipbpfhaaGreatDoorZTwoUnpacks54
namespace Go.Proofs.YtfgdoknipbpfhaaGreatDoor
namespace pTwoUnpacks
open Go.ChangeShapes Go.WideShapes Go.ChangeAt Go.RowKit Go.Joins Go.Deep Lift
theorem proved:Rows.TwoUnpacksCardSaid:=
 Claim7.holds_tied_plain_at .later [] [.data] true Rows.twoUnpacksCard.stood.harness false XE (fun _ h=>by cases h) ZA (fun _ h=>by cases h) twoUnpacks_row_tie rfl ⟨rfl,rfl⟩ Facts.mainIs rfl
  (fun f fn hf hfn=>by obtain rfl:f=8:=Option.some.inj (fnamed.symm.trans hf) |>.symm;obtain rfl:fn=Tryz.f8:=(Option.some.inj (Tryz.func8.symm.trans hfn)).symm;exact⟨Facts.looks,fun j t ht=>by rw[Tryz.params8]at ht;have hm:t∈ [28]:=(by simpa using Array.mem_of_getElem? ht);have i:([28].all fun u=> !Tryz.prog.wantsStandIn u)=true:=kG;exact(show Tryz.prog.wantsStandIn t=false by simpa using Iy.1 i t hm)⟩)
  goes
#print axioms proved
end pTwoUnpacks
end Go.Proofs.YtfgdoknipbpfhaaGreatDoor

/- The statement BodyMakesSaid: the walk of the law is BodyMakes; here it -/
import Derived.Test.YtcafklmbehoggaaGreatDoorZBodyMakes41
import Derived.Test.YtcafklmbehoggaaGreatDoorZBodyMakes42
import Derived.Test.YtcafklmbehoggaaGreatDoorZBodyMakes43
import Derived.Test.YtcafklmbehoggaaGreatDoorZBodyMakes44
import Derived.Test.YtcafklmbehoggaaGreatDoorZBodyMakes45
namespace Go.Proofs.YtcafklmbehoggaaGreatDoor end Go.Proofs.YtcafklmbehoggaaGreatDoor open Go.Proofs.YtcafklmbehoggaaGreatDoor
namespace Go.Proofs.YtcafklmbehoggaaGreatDoor.pBodyMakes
open Go.ChangeShapes Go.WideShapes Go.ChangeAt Go.RowKit Go.Joins Go.Deep Lift
theorem proved:Rows.BodyMakesCardSaid:=
 Claim7.holds_tied_plain_at .later [] [.data] true Rows.bodyMakesCard.stood.harness false udZb (fun _ h=>by cases h) wfText (fun _ h=>by cases h) bodyMakes_row_tie rfl ⟨rfl,rfl⟩ Facts.mainIs rfl
  (fun f fn hf hfn=>by
    obtain rfl:f=3:=Option.some.inj (fnamed.symm.trans hf) |>.symm
    obtain rfl:fn=Tryz.f3:=(Option.some.inj (Tryz.func3.symm.trans hfn)).symm
    exact⟨Facts.looks,fun j t ht=>by
     rw[Tryz.params3]at ht
     have hm:t∈ [23,24]:=by simpa using Array.mem_of_getElem? ht
     have hall:([23,24].all fun u=> !Tryz.prog.wantsStandIn u)=true:=by kernel_rfl
     exact(show Tryz.prog.wantsStandIn t=false by simpa using List.all_eq_true.1 hall t hm)⟩)
  goes
#print axioms proved
end Go.Proofs.YtcafklmbehoggaaGreatDoor.pBodyMakes

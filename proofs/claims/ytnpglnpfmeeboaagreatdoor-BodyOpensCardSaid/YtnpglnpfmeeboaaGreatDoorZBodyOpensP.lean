/- The statement BodyOpensSaid: the walk of the law is BodyOpens; here it -/
import Derived.Test.YtnpglnpfmeeboaaGreatDoorZBodyOpens36
import Derived.Test.YtnpglnpfmeeboaaGreatDoorZBodyOpens37
import Derived.Test.YtnpglnpfmeeboaaGreatDoorZBodyOpens38
import Derived.Test.YtnpglnpfmeeboaaGreatDoorZBodyOpens39
import Derived.Test.YtnpglnpfmeeboaaGreatDoorZBodyOpens40
namespace Go.Proofs.YtnpglnpfmeeboaaGreatDoor end Go.Proofs.YtnpglnpfmeeboaaGreatDoor open Go.Proofs.YtnpglnpfmeeboaaGreatDoor
namespace Go.Proofs.YtnpglnpfmeeboaaGreatDoor.pBodyOpens
open Go.ChangeShapes Go.WideShapes Go.ChangeAt Go.RowKit Go.Joins Go.Deep Lift
theorem proved:Rows.BodyOpensCardSaid:=
 Claim7.holds_tied_plain_at .later [] [.data] true Rows.bodyOpensCard.stood.harness false jeZb (fun _ h=>by cases h) dkZb (fun _ h=>by cases h) bodyOpens_row_tie rfl ⟨rfl,rfl⟩ Facts.mainIs rfl
  (fun f fn hf hfn=>by
    obtain rfl:f=3:=Option.some.inj (fnamed.symm.trans hf) |>.symm
    obtain rfl:fn=Tryz.f3:=(Option.some.inj (Tryz.func3.symm.trans hfn)).symm
    exact⟨Facts.looks,fun j t ht=>by
     rw[Tryz.params3]at ht
     have hm:t∈ [23,24,3]:=by simpa using Array.mem_of_getElem? ht
     have hall:([23,24,3].all fun u=> !Tryz.prog.wantsStandIn u)=true:=by kernel_rfl
     exact(show Tryz.prog.wantsStandIn t=false by simpa using List.all_eq_true.1 hall t hm)⟩)
  goes
#print axioms proved
end Go.Proofs.YtnpglnpfmeeboaaGreatDoor.pBodyOpens

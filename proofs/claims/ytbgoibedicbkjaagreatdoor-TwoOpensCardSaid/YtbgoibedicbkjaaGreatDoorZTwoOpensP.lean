/- The statement TwoOpensSaid: the walk of the law is TwoOpens; here it i -/
import Derived.Test.YtbgoibedicbkjaaGreatDoorZTwoOpens38
import Derived.Test.YtbgoibedicbkjaaGreatDoorZTwoOpens39
import Derived.Test.YtbgoibedicbkjaaGreatDoorZTwoOpens40
import Derived.Test.YtbgoibedicbkjaaGreatDoorZTwoOpens41
import Derived.Test.YtbgoibedicbkjaaGreatDoorZTwoOpens42
namespace Go.Proofs.YtbgoibedicbkjaaGreatDoor end Go.Proofs.YtbgoibedicbkjaaGreatDoor open Go.Proofs.YtbgoibedicbkjaaGreatDoor
namespace Go.Proofs.YtbgoibedicbkjaaGreatDoor.pTwoOpens
open Go.ChangeShapes Go.WideShapes Go.ChangeAt Go.RowKit Go.Joins Go.Deep Lift
theorem proved:Rows.TwoOpensCardSaid:=
 Claim7.holds_tied_plain_at .later [] [.data] true Rows.twoOpensCard.stood.harness false ofZb (fun _ h=>by cases h) llZb (fun _ h=>by cases h) twoOpens_row_tie rfl ⟨rfl,rfl⟩ Facts.mainIs rfl
  (fun f fn hf hfn=>by
    obtain rfl:f=3:=Option.some.inj (fnamed.symm.trans hf) |>.symm
    obtain rfl:fn=Tryz.f3:=(Option.some.inj (Tryz.func3.symm.trans hfn)).symm
    exact⟨Facts.looks,fun j t ht=>by
     rw[Tryz.params3]at ht
     have hm:t∈ [22]:=by simpa using Array.mem_of_getElem? ht
     have hall:([22].all fun u=> !Tryz.prog.wantsStandIn u)=true:=by kernel_rfl
     exact(show Tryz.prog.wantsStandIn t=false by simpa using List.all_eq_true.1 hall t hm)⟩)
  goes
#print axioms proved
end Go.Proofs.YtbgoibedicbkjaaGreatDoor.pTwoOpens

/- The statement TwoPacksSaid: the walk of the law is TwoPacks; here it i -/
import Derived.Test.YtmlaajebadfkoaaGreatDoorZTwoPacks41
import Derived.Test.YtmlaajebadfkoaaGreatDoorZTwoPacks42
import Derived.Test.YtmlaajebadfkoaaGreatDoorZTwoPacks43
import Derived.Test.YtmlaajebadfkoaaGreatDoorZTwoPacks44
import Derived.Test.YtmlaajebadfkoaaGreatDoorZTwoPacks45
namespace Go.Proofs.YtmlaajebadfkoaaGreatDoor end Go.Proofs.YtmlaajebadfkoaaGreatDoor open Go.Proofs.YtmlaajebadfkoaaGreatDoor
namespace Go.Proofs.YtmlaajebadfkoaaGreatDoor.pTwoPacks
open Go.ChangeShapes Go.WideShapes Go.ChangeAt Go.RowKit Go.Joins Go.Deep Lift
theorem proved:Rows.TwoPacksCardSaid:=
 Claim7.holds_tied_plain_at .later [] [.data] true Rows.twoPacksCard.stood.harness false zlZb (fun _ h=>by cases h) trZb (fun _ h=>by cases h) twoPacks_row_tie rfl ⟨rfl,rfl⟩ Facts.mainIs rfl
  (fun f fn hf hfn=>by
    obtain rfl:f=3:=Option.some.inj (fnamed.symm.trans hf) |>.symm
    obtain rfl:fn=Tryz.f3:=(Option.some.inj (Tryz.func3.symm.trans hfn)).symm
    exact⟨Facts.looks,fun j t ht=>by
     rw[Tryz.params3]at ht
     have hm:t∈ [23,24]:=by simpa using Array.mem_of_getElem? ht
     have hall:([23,24].all fun u=> !Tryz.prog.wantsStandIn u)=true:=by kernel_rfl
     exact(show Tryz.prog.wantsStandIn t=false by simpa using List.all_eq_true.1 hall t hm)⟩)
  goes
#print axioms proved
end Go.Proofs.YtmlaajebadfkoaaGreatDoor.pTwoPacks

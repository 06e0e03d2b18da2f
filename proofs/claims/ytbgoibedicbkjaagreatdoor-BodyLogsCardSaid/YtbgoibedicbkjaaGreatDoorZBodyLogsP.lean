/- The statement BodyLogsSaid: the walk of the law is BodyLogs; here it i -/
import Derived.Test.YtbgoibedicbkjaaGreatDoorZBodyLogs47
import Derived.Test.YtbgoibedicbkjaaGreatDoorZBodyLogs48
import Derived.Test.YtbgoibedicbkjaaGreatDoorZBodyLogs49
import Derived.Test.YtbgoibedicbkjaaGreatDoorZBodyLogs50
import Derived.Test.YtbgoibedicbkjaaGreatDoorZBodyLogs51
namespace Go.Proofs.YtbgoibedicbkjaaGreatDoor
namespace pBodyLogs
open Go.ChangeShapes Go.WideShapes Go.ChangeAt Go.RowKit Go.Joins Go.Deep Lift
theorem proved:Rows.BodyLogsCardSaid:=
 Claim7.holds_tied_plain_at .later [] [.data] true Rows.bodyLogsCard.stood.harness false Yk (fun _ h=>by cases h) Th (fun _ h=>by cases h) bodyLogs_row_tie rfl ⟨rfl,rfl⟩ Facts.mainIs rfl
  (fun f fn hf hfn=>by obtain rfl:f=5:=Option.some.inj (fnamed.symm.trans hf) |>.symm;obtain rfl:fn=Tryz.f5:=(Option.some.inj (Tryz.func5.symm.trans hfn)).symm;exact⟨Facts.looks,fun j t ht=>by rw[Tryz.params5]at ht;have hm:t∈ [25,22,3]:=(by simpa using Array.mem_of_getElem? ht);have i:([25,22,3].all fun u=> !Tryz.prog.wantsStandIn u)=true:=(by kernel_rfl);exact(show Tryz.prog.wantsStandIn t=false by simpa using Hu.1 i t hm)⟩)
  goes
#print axioms proved
end pBodyLogs
end Go.Proofs.YtbgoibedicbkjaaGreatDoor

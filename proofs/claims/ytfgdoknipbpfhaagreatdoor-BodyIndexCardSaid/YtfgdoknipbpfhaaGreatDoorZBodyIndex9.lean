/- Facts of the stateme -/
import Derived.Test.YtfgdoknipbpfhaaGreatDoorZBodyIndex1
import Derived.Test.YtfgdoknipbpfhaaGreatDoorZBodyIndex6
import Derived.Test.YtfgdoknipbpfhaaGreatDoorZBodyIndex7
import Derived.Test.YtfgdoknipbpfhaaGreatDoorZBodyIndex8
namespace Go.Proofs.YtfgdoknipbpfhaaGreatDoor
namespace pBodyIndex
open Go
set_option maxHeartbeats 2000000 in
theorem closed:joinedFacts Tryz.prog 5 Tryz.f5 Rows.bodyIndexSpec Rows.bodyIndexRow=true:=by
 unfold joinedFacts;simp only[Bool.and_eq_true]
 repeat' apply And.intro
 all_goals first|with_reducible exact Facts.mayEnter|with_reducible exact Facts.laidOut|with_reducible exact Facts.mapsRowed|with_reducible exact Facts.stopsHeard|with_reducible exact inPlace|with_reducible exact unfollowed|with_reducible exact recurses|with_reducible exact named|(rw[Facts.liftsFinal];as_aux_lemma=>kernel_rfl)|(rw[Facts.make];as_aux_lemma=>kernel_rfl)|(rw[Facts.plainKeys];as_aux_lemma=>kernel_rfl)|(as_aux_lemma=>kernel_rfl)
end pBodyIndex
end Go.Proofs.YtfgdoknipbpfhaaGreatDoor

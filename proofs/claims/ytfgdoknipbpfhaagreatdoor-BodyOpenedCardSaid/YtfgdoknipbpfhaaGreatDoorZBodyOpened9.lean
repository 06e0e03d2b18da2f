/- Facts of the stateme -/
import Derived.Test.YtfgdoknipbpfhaaGreatDoorZBodyOpened1
import Derived.Test.YtfgdoknipbpfhaaGreatDoorZBodyOpened6
import Derived.Test.YtfgdoknipbpfhaaGreatDoorZBodyOpened7
import Derived.Test.YtfgdoknipbpfhaaGreatDoorZBodyOpened8
namespace Go.Proofs.YtfgdoknipbpfhaaGreatDoor
namespace pBodyOpened
open Go
set_option maxHeartbeats 2000000 in
theorem closed:joinedFacts Tryz.prog 7 Tryz.f7 Rows.bodyOpenedSpec Rows.bodyOpenedRow=true:=by
 unfold joinedFacts;simp only[Bool.and_eq_true]
 repeat' apply And.intro
 all_goals first|with_reducible exact Facts.mayEnter|with_reducible exact Facts.laidOut|with_reducible exact Facts.mapsRowed|with_reducible exact Facts.stopsHeard|with_reducible exact inPlace|with_reducible exact unfollowed|with_reducible exact recurses|with_reducible exact named|(rw[Facts.liftsFinal];as_aux_lemma=>kernel_rfl)|(rw[Facts.make];as_aux_lemma=>kernel_rfl)|(rw[Facts.plainKeys];as_aux_lemma=>kernel_rfl)|(as_aux_lemma=>kernel_rfl)
end pBodyOpened
end Go.Proofs.YtfgdoknipbpfhaaGreatDoor

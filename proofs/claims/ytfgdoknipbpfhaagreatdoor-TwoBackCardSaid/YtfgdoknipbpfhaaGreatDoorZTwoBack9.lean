/- Facts of the stateme -/
import Derived.Test.YtfgdoknipbpfhaaGreatDoorZTwoBack6
import Derived.Test.YtfgdoknipbpfhaaGreatDoorZTwoBack7
import Derived.Test.YtfgdoknipbpfhaaGreatDoorZTwoBack8
namespace Go.Proofs.YtfgdoknipbpfhaaGreatDoor
namespace pTwoBack
open Go
set_option maxHeartbeats 2000000 in
theorem closed:joinedFacts Tryz.prog 9 Tryz.f9 Rows.twoBackSpec Rows.twoBackRow=true:=by
 unfold joinedFacts;simp only[Bool.and_eq_true]
 repeat' apply And.intro
 all_goals first|with_reducible exact Facts.mayEnter|with_reducible exact Facts.laidOut|with_reducible exact Facts.mapsRowed|with_reducible exact Facts.stopsHeard|with_reducible exact inPlace|with_reducible exact unfollowed|with_reducible exact recurses|with_reducible exact named|(rw[Facts.liftsFinal];as_aux_lemma=>kernel_rfl)|(rw[Facts.make];as_aux_lemma=>kernel_rfl)|(rw[Facts.plainKeys];as_aux_lemma=>kernel_rfl)|(as_aux_lemma=>kernel_rfl)
end pTwoBack
end Go.Proofs.YtfgdoknipbpfhaaGreatDoor

/- Facts of the stateme -/
import Derived.Test.YtfgdoknipbpfhaaGreatDoorZTwoUnpacks1
import Derived.Test.YtfgdoknipbpfhaaGreatDoorZTwoUnpacks6
import Derived.Test.YtfgdoknipbpfhaaGreatDoorZTwoUnpacks7
import Derived.Test.YtfgdoknipbpfhaaGreatDoorZTwoUnpacks8
namespace Go.Proofs.YtfgdoknipbpfhaaGreatDoor
namespace pTwoUnpacks
open Go
set_option maxHeartbeats 2000000 in
theorem closed:joinedFacts Tryz.prog 8 Tryz.f8 Rows.twoUnpacksSpec Rows.twoUnpacksRow=true:=by
 unfold joinedFacts;simp only[Bool.and_eq_true]
 repeat' apply And.intro
 all_goals first|with_reducible exact Facts.mayEnter|with_reducible exact Facts.laidOut|with_reducible exact Facts.mapsRowed|with_reducible exact Facts.stopsHeard|with_reducible exact inPlace|with_reducible exact unfollowed|with_reducible exact recurses|with_reducible exact named|(rw[Facts.liftsFinal];as_aux_lemma=>kernel_rfl)|(rw[Facts.make];as_aux_lemma=>kernel_rfl)|(rw[Facts.plainKeys];as_aux_lemma=>kernel_rfl)|(as_aux_lemma=>kernel_rfl)
end pTwoUnpacks
end Go.Proofs.YtfgdoknipbpfhaaGreatDoor

/- Facts of the stateme -/
import Derived.Test.YtfgdoknipbpfhaaGreatDoorZBodyBlocks1
import Derived.Test.YtfgdoknipbpfhaaGreatDoorZBodyBlocks6
import Derived.Test.YtfgdoknipbpfhaaGreatDoorZBodyBlocks7
import Derived.Test.YtfgdoknipbpfhaaGreatDoorZBodyBlocks8
namespace Go.Proofs.YtfgdoknipbpfhaaGreatDoor
namespace pBodyBlocks
open Go
set_option maxHeartbeats 2000000 in
theorem closed:joinedFacts Tryz.prog 3 Tryz.f3 Rows.bodyBlocksSpec Rows.bodyBlocksRow=true:=by
 unfold joinedFacts;simp only[Bool.and_eq_true]
 repeat' apply And.intro
 all_goals first|with_reducible exact Facts.mayEnter|with_reducible exact Facts.laidOut|with_reducible exact Facts.mapsRowed|with_reducible exact Facts.stopsHeard|with_reducible exact inPlace|with_reducible exact unfollowed|with_reducible exact recurses|with_reducible exact named|(rw[Facts.liftsFinal];as_aux_lemma=>kernel_rfl)|(rw[Facts.make];as_aux_lemma=>kernel_rfl)|(rw[Facts.plainKeys];as_aux_lemma=>kernel_rfl)|(as_aux_lemma=>kernel_rfl)
end pBodyBlocks
end Go.Proofs.YtfgdoknipbpfhaaGreatDoor

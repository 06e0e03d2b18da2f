/-
  Facts of the statement OneBackSaid: all of them joined.
-/
import Derived.Test.YtmgjgkdbagbleaaGreatDoorZOneBack9
import Derived.Test.YtmgjgkdbagbleaaGreatDoorZOneBack10
import Derived.Test.YtmgjgkdbagbleaaGreatDoorZOneBack11
namespace Go.Proofs.YtmgjgkdbagbleaaGreatDoor.pOneBack
open Go
set_option maxHeartbeats 2000000 in
theorem closed : joinedFacts Tryz.prog 4 Tryz.f4 Rows.oneBackSpec Rows.oneBackRow = true := by
  unfold joinedFacts
  simp only [Bool.and_eq_true]
  repeat' apply And.intro
  all_goals first | with_reducible exact Facts.mayEnter | with_reducible exact Facts.laidOut | with_reducible exact Facts.mapsRowed | with_reducible exact Facts.stopsHeard | with_reducible exact inPlace | with_reducible exact unfollowed | with_reducible exact recurses | with_reducible exact named | (rw [Facts.liftsFinal]; as_aux_lemma => kernel_rfl) | (rw [Facts.make]; as_aux_lemma => kernel_rfl) | (rw [Facts.plainKeys]; as_aux_lemma => kernel_rfl) | (as_aux_lemma => kernel_rfl)
end Go.Proofs.YtmgjgkdbagbleaaGreatDoor.pOneBack

/- Closed facts of the row PickSets. -/
import Derived.Test.YtjmpmjmobbofgaaGreatDoorUsaa
import Derived.Test.YtjmpmjmobbofgaaGreatDoorRows
import Derived.JoinedOf
set_option linter.unusedSimpArgs false
set_option linter.unusedVariables false
namespace Go.Proofs
open Go
set_option maxHeartbeats 8000000 in
theorem pickSets_facts:joinedFacts Tryz.prog 11 Tryz.f11 YtjmpmjmobbofgaaGreatDoor.Rows.pickSetsSpec YtjmpmjmobbofgaaGreatDoor.Rows.pickSetsRow=true:=by
 simp only[joinedFacts,Bool.and_eq_true]
 repeat' (apply And.intro)
 all_goals (as_aux_lemma=>kernel_rfl)
end Go.Proofs

/- Closed facts of the row PickAgain. -/
import Derived.Test.YtjmpmjmobbofgaaGreatDoorUgaa
import Derived.Test.YtjmpmjmobbofgaaGreatDoorRows
import Derived.JoinedOf
set_option linter.unusedSimpArgs false
set_option linter.unusedVariables false
namespace Go.Proofs
open Go
set_option maxHeartbeats 8000000 in
theorem pickAgain_facts:joinedFacts Tryz.prog 10 Tryz.f10 YtjmpmjmobbofgaaGreatDoor.Rows.pickAgainSpec YtjmpmjmobbofgaaGreatDoor.Rows.pickAgainRow=true:=by
 simp only[joinedFacts,Bool.and_eq_true]
 repeat' (apply And.intro)
 all_goals (as_aux_lemma=>kernel_rfl)
end Go.Proofs

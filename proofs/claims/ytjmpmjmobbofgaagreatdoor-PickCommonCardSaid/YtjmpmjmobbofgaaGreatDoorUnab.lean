/- Closed facts of the row PickCommon. -/
import Derived.Test.YtjmpmjmobbofgaaGreatDoorUnaa
import Derived.Test.YtjmpmjmobbofgaaGreatDoorRows
import Derived.JoinedOf
set_option linter.unusedSimpArgs false
set_option linter.unusedVariables false
namespace Go.Proofs
open Go
set_option maxHeartbeats 8000000 in
theorem pickCommon_facts:joinedFacts Tryz.prog 12 Tryz.f12 YtjmpmjmobbofgaaGreatDoor.Rows.pickCommonSpec YtjmpmjmobbofgaaGreatDoor.Rows.pickCommonRow=true:=by
 simp only[joinedFacts,Bool.and_eq_true]
 repeat' (apply And.intro)
 all_goals (as_aux_lemma=>kernel_rfl)
end Go.Proofs

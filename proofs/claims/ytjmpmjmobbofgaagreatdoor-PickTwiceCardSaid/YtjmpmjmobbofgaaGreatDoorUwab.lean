/- Closed facts of the row PickTwice. -/
import Derived.Test.YtjmpmjmobbofgaaGreatDoorUwaa
import Derived.Test.YtjmpmjmobbofgaaGreatDoorRows
import Derived.JoinedOf
set_option linter.unusedSimpArgs false
set_option linter.unusedVariables false
namespace Go.Proofs
open Go
set_option maxHeartbeats 8000000 in
theorem pickTwice_facts:joinedFacts Tryz.prog 7 Tryz.f7 YtjmpmjmobbofgaaGreatDoor.Rows.pickTwiceSpec YtjmpmjmobbofgaaGreatDoor.Rows.pickTwiceRow=true:=by
 simp only[joinedFacts,Bool.and_eq_true]
 repeat' (apply And.intro)
 all_goals (as_aux_lemma=>kernel_rfl)
end Go.Proofs

/- Closed facts of the row PickPick. -/
import Derived.Test.YtjmpmjmobbofgaaGreatDoorUpaa
import Derived.Test.YtjmpmjmobbofgaaGreatDoorRows
import Derived.JoinedOf
set_option linter.unusedSimpArgs false
set_option linter.unusedVariables false
namespace Go.Proofs
open Go
set_option maxHeartbeats 8000000 in
theorem pickPick_facts:joinedFacts Tryz.prog 8 Tryz.f8 YtjmpmjmobbofgaaGreatDoor.Rows.pickPickSpec YtjmpmjmobbofgaaGreatDoor.Rows.pickPickRow=true:=by
 simp only[joinedFacts,Bool.and_eq_true]
 repeat' (apply And.intro)
 all_goals (as_aux_lemma=>kernel_rfl)
end Go.Proofs

/- Closed facts of the row PatchsetOrder. -/
import Derived.Test.YtjmpmjmobbofgaaGreatDoorVoaa
import Derived.Test.YtjmpmjmobbofgaaGreatDoorRows
import Derived.JoinedOf
set_option linter.unusedSimpArgs false
set_option linter.unusedVariables false
namespace Go.Proofs
open Go
set_option maxHeartbeats 8000000 in
theorem patchsetOrder_facts:joinedFacts Tryz.prog 3 Tryz.f3 YtjmpmjmobbofgaaGreatDoor.Rows.patchsetOrderSpec YtjmpmjmobbofgaaGreatDoor.Rows.patchsetOrderRow=true:=by
 simp only[joinedFacts,Bool.and_eq_true]
 repeat' (apply And.intro)
 all_goals (as_aux_lemma=>kernel_rfl)
end Go.Proofs

/- Closed facts of the row SquashSplit. -/
import Derived.Test.YtaibdmankdppkaaGreatDoorRows
import Derived.JoinedOf
set_option linter.unusedSimpArgs false
set_option linter.unusedVariables false
namespace Go.Proofs
open Go
set_option maxHeartbeats 8000000 in
theorem QB:joinedFacts Tryz.prog 5 Tryz.f5 YtaibdmankdppkaaGreatDoor.Rows.squashSplitSpec YtaibdmankdppkaaGreatDoor.Rows.squashSplitRow=true:=by
 simp only[joinedFacts,Bool.and_eq_true]
 repeat' (apply And.intro)
 all_goals (as_aux_lemma=>kernel_rfl)
end Go.Proofs

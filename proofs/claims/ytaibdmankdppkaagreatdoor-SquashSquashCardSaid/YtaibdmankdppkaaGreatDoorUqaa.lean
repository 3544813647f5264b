/- Closed facts of the row SquashSquash. -/
import Derived.Test.YtaibdmankdppkaaGreatDoorRows
import Derived.JoinedOf
set_option linter.unusedSimpArgs false
set_option linter.unusedVariables false
namespace Go.Proofs
open Go
set_option maxHeartbeats 8000000 in
theorem PZ:joinedFacts Tryz.prog 3 Tryz.f3 YtaibdmankdppkaaGreatDoor.Rows.squashSquashSpec YtaibdmankdppkaaGreatDoor.Rows.squashSquashRow=true:=by
 simp only[joinedFacts,Bool.and_eq_true]
 repeat' (apply And.intro)
 all_goals (as_aux_lemma=>kernel_rfl)
end Go.Proofs

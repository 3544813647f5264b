/- Closed facts of the row SquashAtoms. -/
import Derived.Test.YtaibdmankdppkaaGreatDoorRows
import Derived.JoinedOf
set_option linter.unusedSimpArgs false
set_option linter.unusedVariables false
namespace Go.Proofs
open Go
set_option maxHeartbeats 8000000 in
theorem squashAtoms_facts:joinedFacts Tryz.prog 7 Tryz.f7 YtaibdmankdppkaaGreatDoor.Rows.squashAtomsSpec YtaibdmankdppkaaGreatDoor.Rows.squashAtomsRow=true:=by
 simp only[joinedFacts,Bool.and_eq_true]
 repeat' (apply And.intro)
 all_goals (as_aux_lemma=>kernel_rfl)
end Go.Proofs

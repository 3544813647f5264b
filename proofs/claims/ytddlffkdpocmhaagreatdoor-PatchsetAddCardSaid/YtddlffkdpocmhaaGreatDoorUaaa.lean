/- Closed facts of the row PatchsetAdd. -/
import Derived.Test.YtddlffkdpocmhaaGreatDoorUaq
import Derived.Test.YtddlffkdpocmhaaGreatDoorRows
import Derived.JoinedOf
set_option linter.unusedSimpArgs false
set_option linter.unusedVariables false
namespace Go.Proofs
open Go
set_option maxHeartbeats 8000000 in
theorem patchsetAdd_facts:joinedFacts Tryz.prog 10 Tryz.f10 YtddlffkdpocmhaaGreatDoor.Rows.patchsetAddSpec YtddlffkdpocmhaaGreatDoor.Rows.patchsetAddRow=true:=by
 simp only[joinedFacts,Bool.and_eq_true]
 repeat' (apply And.intro)
 all_goals (as_aux_lemma=>kernel_rfl)
end Go.Proofs

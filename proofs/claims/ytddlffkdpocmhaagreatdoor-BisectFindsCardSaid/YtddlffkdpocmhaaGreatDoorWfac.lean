/- Closed facts of the row BisectFinds. -/
import Derived.Test.YtddlffkdpocmhaaGreatDoorWfab
import Derived.Test.YtddlffkdpocmhaaGreatDoorRows
import Derived.JoinedOf
set_option linter.unusedSimpArgs false
set_option linter.unusedVariables false
namespace Go.Proofs
open Go

set_option maxHeartbeats 8000000 in
theorem bisectFinds_facts : joinedFacts Tryz.prog 7 Tryz.f7 YtddlffkdpocmhaaGreatDoor.Rows.bisectFindsSpec YtddlffkdpocmhaaGreatDoor.Rows.bisectFindsRow = true := by
  simp only [joinedFacts, Bool.and_eq_true]
  repeat' (apply And.intro)
  all_goals (as_aux_lemma => kernel_rfl)
end Go.Proofs

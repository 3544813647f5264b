/- Closed facts of the row HistoryDepth. -/
import Derived.Test.YtmkdlelpipefbaaGreatDoorUdaa
import Derived.Test.YtmkdlelpipefbaaGreatDoorRows
import Derived.JoinedOf
set_option linter.unusedSimpArgs false
set_option linter.unusedVariables false
namespace Go.Proofs
open Go
set_option maxHeartbeats 8000000 in
theorem historyDepth_facts:joinedFacts Tryz.prog 3 Tryz.f3 YtmkdlelpipefbaaGreatDoor.Rows.historyDepthSpec YtmkdlelpipefbaaGreatDoor.Rows.historyDepthRow=true:=by
 simp only[joinedFacts,Bool.and_eq_true]
 repeat' (apply And.intro)
 all_goals (as_aux_lemma=>kernel_rfl)
end Go.Proofs

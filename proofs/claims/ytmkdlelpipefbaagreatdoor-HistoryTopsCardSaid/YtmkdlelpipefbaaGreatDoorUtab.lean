/- Closed facts of the row HistoryTops. -/
import Derived.Test.YtmkdlelpipefbaaGreatDoorUtaa
import Derived.Test.YtmkdlelpipefbaaGreatDoorRows
import Derived.JoinedOf
set_option linter.unusedSimpArgs false
set_option linter.unusedVariables false
namespace Go.Proofs
open Go
set_option maxHeartbeats 8000000 in
theorem historyTops_facts:joinedFacts Tryz.prog 4 Tryz.f4 YtmkdlelpipefbaaGreatDoor.Rows.historyTopsSpec YtmkdlelpipefbaaGreatDoor.Rows.historyTopsRow=true:=by
 simp only[joinedFacts,Bool.and_eq_true]
 repeat' (apply And.intro)
 all_goals (as_aux_lemma=>kernel_rfl)
end Go.Proofs

/- Closed facts of the row HistoryLog. -/
import Derived.Test.YtmkdlelpipefbaaGreatDoorUlaa
import Derived.Test.YtmkdlelpipefbaaGreatDoorRows
import Derived.JoinedOf
set_option linter.unusedSimpArgs false
set_option linter.unusedVariables false
namespace Go.Proofs
open Go
set_option maxHeartbeats 8000000 in
theorem historyLog_facts:joinedFacts Tryz.prog 5 Tryz.f5 YtmkdlelpipefbaaGreatDoor.Rows.historyLogSpec YtmkdlelpipefbaaGreatDoor.Rows.historyLogRow=true:=by
 simp only[joinedFacts,Bool.and_eq_true]
 repeat' (apply And.intro)
 all_goals (as_aux_lemma=>kernel_rfl)
end Go.Proofs

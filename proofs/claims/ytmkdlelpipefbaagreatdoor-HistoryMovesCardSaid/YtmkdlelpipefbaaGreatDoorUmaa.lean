/- Closed facts of the row HistoryMoves. -/
import Derived.Test.YtmkdlelpipefbaaGreatDoorUas
import Derived.Test.YtmkdlelpipefbaaGreatDoorRows
import Derived.JoinedOf
set_option linter.unusedSimpArgs false
set_option linter.unusedVariables false
namespace Go.Proofs
open Go
set_option maxHeartbeats 8000000 in
theorem historyMoves_facts:joinedFacts Tryz.prog 9 Tryz.f9 YtmkdlelpipefbaaGreatDoor.Rows.historyMovesSpec YtmkdlelpipefbaaGreatDoor.Rows.historyMovesRow=true:=by
 simp only[joinedFacts,Bool.and_eq_true]
 repeat' (apply And.intro)
 all_goals (as_aux_lemma=>kernel_rfl)
end Go.Proofs

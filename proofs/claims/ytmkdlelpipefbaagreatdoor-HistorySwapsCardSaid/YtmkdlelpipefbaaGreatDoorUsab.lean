/- Closed facts of the row HistorySwaps. -/
import Derived.Test.YtmkdlelpipefbaaGreatDoorUsaa
import Derived.Test.YtmkdlelpipefbaaGreatDoorRows
import Derived.JoinedOf
set_option linter.unusedSimpArgs false
set_option linter.unusedVariables false
namespace Go.Proofs
open Go
set_option maxHeartbeats 8000000 in
theorem historySwaps_facts:joinedFacts Tryz.prog 7 Tryz.f7 YtmkdlelpipefbaaGreatDoor.Rows.historySwapsSpec YtmkdlelpipefbaaGreatDoor.Rows.historySwapsRow=true:=by
 simp only[joinedFacts,Bool.and_eq_true]
 repeat' (apply And.intro)
 all_goals (as_aux_lemma=>kernel_rfl)
end Go.Proofs

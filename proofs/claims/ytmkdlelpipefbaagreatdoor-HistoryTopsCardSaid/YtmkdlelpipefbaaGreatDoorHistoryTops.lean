/- HistoryTops answers true at all of its inputs, and leaves them as they were: the tied card of its row. No condition beyond the row's own. -/
import Derived.Test.YtmkdlelpipefbaaGreatDoorUtac
namespace Go.Proofs.YtmkdlelpipefbaaGreatDoor
open Go

theorem historyTops : Rows.HistoryTopsCardSaid := historyTops_card (historyTops_said historyTops_fn)
end Go.Proofs.YtmkdlelpipefbaaGreatDoor

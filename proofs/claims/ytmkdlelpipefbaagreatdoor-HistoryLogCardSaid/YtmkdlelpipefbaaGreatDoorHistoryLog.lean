/- HistoryLog answers true at all of its inputs, and leaves them as they were: the tied card of its row. No condition beyond the row's own. -/
import Derived.Test.YtmkdlelpipefbaaGreatDoorUlac
namespace Go.Proofs.YtmkdlelpipefbaaGreatDoor
open Go

theorem historyLog : Rows.HistoryLogCardSaid := historyLog_card (historyLog_said historyLog_fn)
end Go.Proofs.YtmkdlelpipefbaaGreatDoor

/- HistoryDepth answers true at all of its inputs, and leaves them as they were: the tied card of its row. No condition beyond the row's own. -/
import Derived.Test.YtmkdlelpipefbaaGreatDoorUdac
namespace Go.Proofs.YtmkdlelpipefbaaGreatDoor
open Go

theorem historyDepth : Rows.HistoryDepthCardSaid := historyDepth_card (historyDepth_said historyDepth_fn)
end Go.Proofs.YtmkdlelpipefbaaGreatDoor

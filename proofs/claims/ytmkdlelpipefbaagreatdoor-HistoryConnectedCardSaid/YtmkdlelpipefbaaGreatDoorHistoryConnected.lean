/- HistoryConnected answers true at all of its inputs, and leaves them as they were: the tied card of its row. No condition beyond the row's own. -/
import Derived.Test.YtmkdlelpipefbaaGreatDoorUcac
namespace Go.Proofs.YtmkdlelpipefbaaGreatDoor
open Go

theorem historyConnected : Rows.HistoryConnectedCardSaid := historyConnected_card (historyConnected_said historyConnected_fn)
end Go.Proofs.YtmkdlelpipefbaaGreatDoor

/- HistoryPrefixes answers true at all of its inputs, and leaves them as they were: the tied card of its row. No condition beyond the row's own. -/
import Derived.Test.YtmkdlelpipefbaaGreatDoorUpac
namespace Go.Proofs.YtmkdlelpipefbaaGreatDoor
open Go

theorem historyPrefixes : Rows.HistoryPrefixesCardSaid := historyPrefixes_card (historyPrefixes_said historyPrefixes_fn)
end Go.Proofs.YtmkdlelpipefbaaGreatDoor

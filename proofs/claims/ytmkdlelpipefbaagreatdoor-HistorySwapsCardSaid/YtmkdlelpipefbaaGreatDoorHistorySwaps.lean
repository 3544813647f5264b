/- HistorySwaps answers true at all of its inputs, and leaves them as they were: the tied card of its row. No condition beyond the row's own. -/
import Derived.Test.YtmkdlelpipefbaaGreatDoorUsac
namespace Go.Proofs.YtmkdlelpipefbaaGreatDoor
open Go

theorem historySwaps : Rows.HistorySwapsCardSaid := historySwaps_card (historySwaps_said historySwaps_fn)
end Go.Proofs.YtmkdlelpipefbaaGreatDoor

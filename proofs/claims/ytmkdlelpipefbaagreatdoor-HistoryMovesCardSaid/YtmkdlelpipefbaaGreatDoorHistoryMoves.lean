/- HistoryMoves answers true at all of its inputs, and leaves them as they were: the tied card of its row. No condition beyond the row's own. -/
import Derived.Test.YtmkdlelpipefbaaGreatDoorUmab
namespace Go.Proofs.YtmkdlelpipefbaaGreatDoor
open Go

theorem historyMoves : Rows.HistoryMovesCardSaid := historyMoves_card (historyMoves_said historyMoves_fn)
end Go.Proofs.YtmkdlelpipefbaaGreatDoor

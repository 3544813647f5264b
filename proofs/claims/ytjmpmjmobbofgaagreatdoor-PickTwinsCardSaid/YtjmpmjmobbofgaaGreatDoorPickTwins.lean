/- PickTwins answers true at all of its inputs, and leaves them as they were: the tied card of its row. No condition beyond the row's own. -/
import Derived.Test.YtjmpmjmobbofgaaGreatDoorUoac
namespace Go.Proofs.YtjmpmjmobbofgaaGreatDoor
open Go

theorem pickTwins : Rows.PickTwinsCardSaid := pickTwins_card (pickTwins_said pickTwins_fn)
end Go.Proofs.YtjmpmjmobbofgaaGreatDoor

/- PickTwice answers true at all of its inputs, and leaves them as they were: the tied card of its row. No condition beyond the row's own. -/
import Derived.Test.YtjmpmjmobbofgaaGreatDoorUwac
namespace Go.Proofs.YtjmpmjmobbofgaaGreatDoor
open Go

theorem pickTwice : Rows.PickTwiceCardSaid := pickTwice_card (pickTwice_said pickTwice_fn)
end Go.Proofs.YtjmpmjmobbofgaaGreatDoor

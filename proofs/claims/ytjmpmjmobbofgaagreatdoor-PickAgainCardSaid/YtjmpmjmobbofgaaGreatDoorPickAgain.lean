/- PickAgain answers true at all of its inputs, and leaves them as they were: the tied card of its row. No condition beyond the row's own. -/
import Derived.Test.YtjmpmjmobbofgaaGreatDoorUgac
namespace Go.Proofs.YtjmpmjmobbofgaaGreatDoor
open Go

theorem pickAgain : Rows.PickAgainCardSaid := pickAgain_card (pickAgain_said pickAgain_fn)
end Go.Proofs.YtjmpmjmobbofgaaGreatDoor

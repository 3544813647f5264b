/- PickSets answers true at all of its inputs, and leaves them as they were: the tied card of its row. No condition beyond the row's own. -/
import Derived.Test.YtjmpmjmobbofgaaGreatDoorUsac
namespace Go.Proofs.YtjmpmjmobbofgaaGreatDoor
open Go

theorem pickSets : Rows.PickSetsCardSaid := pickSets_card (pickSets_said pickSets_fn)
end Go.Proofs.YtjmpmjmobbofgaaGreatDoor

/- PickPick answers true at all of its inputs, and leaves them as they were: the tied card of its row. No condition beyond the row's own. -/
import Derived.Test.YtjmpmjmobbofgaaGreatDoorUpac
namespace Go.Proofs.YtjmpmjmobbofgaaGreatDoor
open Go

theorem pickPick : Rows.PickPickCardSaid := pickPick_card (pickPick_said pickPick_fn)
end Go.Proofs.YtjmpmjmobbofgaaGreatDoor

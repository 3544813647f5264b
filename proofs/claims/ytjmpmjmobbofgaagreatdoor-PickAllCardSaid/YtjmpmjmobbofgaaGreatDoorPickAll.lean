/- PickAll answers true at all of its inputs, and leaves them as they were: the tied card of its row. No condition beyond the row's own. -/
import Derived.Test.YtjmpmjmobbofgaaGreatDoorUlac
namespace Go.Proofs.YtjmpmjmobbofgaaGreatDoor
open Go

theorem pickAll : Rows.PickAllCardSaid := pickAll_card (pickAll_said pickAll_fn)
end Go.Proofs.YtjmpmjmobbofgaaGreatDoor

/- PickCommon answers true at all of its inputs, and leaves them as they were: the tied card of its row. No condition beyond the row's own. -/
import Derived.Test.YtjmpmjmobbofgaaGreatDoorUnac
namespace Go.Proofs.YtjmpmjmobbofgaaGreatDoor
open Go

theorem pickCommon : Rows.PickCommonCardSaid := pickCommon_card (pickCommon_said pickCommon_fn)
end Go.Proofs.YtjmpmjmobbofgaaGreatDoor

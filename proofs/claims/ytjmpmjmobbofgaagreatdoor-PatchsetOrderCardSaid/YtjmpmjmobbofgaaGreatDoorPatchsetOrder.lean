/- PatchsetOrder answers true at all of its inputs, and leaves them as they were: the tied card of its row. No condition beyond the row's own. -/
import Derived.Test.YtjmpmjmobbofgaaGreatDoorVoac
namespace Go.Proofs.YtjmpmjmobbofgaaGreatDoor
open Go

theorem patchsetOrder : Rows.PatchsetOrderCardSaid := patchsetOrder_card (patchsetOrder_said patchsetOrder_fn)
end Go.Proofs.YtjmpmjmobbofgaaGreatDoor

/- PatchsetUnion answers true at all of its inputs, and leaves them as they were: the tied card of its row. No condition beyond the row's own. -/
import Derived.Test.YtjmpmjmobbofgaaGreatDoorVuac
namespace Go.Proofs.YtjmpmjmobbofgaaGreatDoor
open Go

theorem patchsetUnion : Rows.PatchsetUnionCardSaid := patchsetUnion_card (patchsetUnion_said patchsetUnion_fn)
end Go.Proofs.YtjmpmjmobbofgaaGreatDoor

/- PatchsetUnions answers true at all of its inputs, and leaves them as they were: the tied card of its row. No condition beyond the row's own. -/
import Derived.Test.YtjmpmjmobbofgaaGreatDoorVsac
namespace Go.Proofs.YtjmpmjmobbofgaaGreatDoor
open Go

theorem patchsetUnions : Rows.PatchsetUnionsCardSaid := patchsetUnions_card (patchsetUnions_said patchsetUnions_fn)
end Go.Proofs.YtjmpmjmobbofgaaGreatDoor

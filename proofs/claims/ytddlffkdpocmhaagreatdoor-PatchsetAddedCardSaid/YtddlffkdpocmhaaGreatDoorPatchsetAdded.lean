/- PatchsetAdded answers true at all of its inputs, and leaves them as they were: the tied card of its row. No condition beyond the row's own. -/
import Derived.Test.YtddlffkdpocmhaaGreatDoorUeab
namespace Go.Proofs.YtddlffkdpocmhaaGreatDoor
open Go

theorem patchsetAdded : Rows.PatchsetAddedCardSaid := patchsetAdded_card (patchsetAdded_said patchsetAdded_fn)
end Go.Proofs.YtddlffkdpocmhaaGreatDoor

/- PatchsetClosed answers true at all of its inputs, and leaves them as they were: the tied card of its row. No condition beyond the row's own. -/
import Derived.Test.YtddlffkdpocmhaaGreatDoorUlab
namespace Go.Proofs.YtddlffkdpocmhaaGreatDoor
open Go

theorem patchsetClosed : Rows.PatchsetClosedCardSaid := patchsetClosed_card (patchsetClosed_said patchsetClosed_fn)
end Go.Proofs.YtddlffkdpocmhaaGreatDoor

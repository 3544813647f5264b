/- PatchsetDual answers true at all of its inputs, and leaves them as they were: the tied card of its row. No condition beyond the row's own. -/
import Derived.Test.YtddlffkdpocmhaaGreatDoorUdab
namespace Go.Proofs.YtddlffkdpocmhaaGreatDoor
open Go

theorem patchsetDual : Rows.PatchsetDualCardSaid := patchsetDual_card (patchsetDual_said patchsetDual_fn)
end Go.Proofs.YtddlffkdpocmhaaGreatDoor

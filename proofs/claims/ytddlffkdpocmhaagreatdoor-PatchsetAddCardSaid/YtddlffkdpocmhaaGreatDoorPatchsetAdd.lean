/- PatchsetAdd answers true at all of its inputs, and leaves them as they were: the tied card of its row. No condition beyond the row's own. -/
import Derived.Test.YtddlffkdpocmhaaGreatDoorUaab
namespace Go.Proofs.YtddlffkdpocmhaaGreatDoor
open Go

theorem patchsetAdd : Rows.PatchsetAddCardSaid := patchsetAdd_card (patchsetAdd_said patchsetAdd_fn)
end Go.Proofs.YtddlffkdpocmhaaGreatDoor

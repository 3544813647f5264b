/- PatchsetCheck answers true at all of its inputs, and leaves them as they were: the tied card of its row. No condition beyond the row's own. -/
import Derived.Test.YtddlffkdpocmhaaGreatDoorUcab
namespace Go.Proofs.YtddlffkdpocmhaaGreatDoor
open Go

theorem patchsetCheck : Rows.PatchsetCheckCardSaid := patchsetCheck_card (patchsetCheck_said patchsetCheck_fn)
end Go.Proofs.YtddlffkdpocmhaaGreatDoor

/- PatchsetGraph answers true at all of its inputs, and leaves them as they were: the tied card of its row. No condition beyond the row's own. -/
import Derived.Test.YtddlffkdpocmhaaGreatDoorUgab
namespace Go.Proofs.YtddlffkdpocmhaaGreatDoor
open Go

theorem patchsetGraph : Rows.PatchsetGraphCardSaid := patchsetGraph_card (patchsetGraph_said patchsetGraph_fn)
end Go.Proofs.YtddlffkdpocmhaaGreatDoor

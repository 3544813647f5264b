/- BisectBound answers true for every set of patches, and leaves it as it was: the tied card of its row. No condition beyond the row's own. -/
import Derived.Test.YtddlffkdpocmhaaGreatDoorWbab
namespace Go.Proofs.YtddlffkdpocmhaaGreatDoor
open Go

theorem bisectBound : Rows.BisectBoundCardSaid := bisectBound_card (bisectBound_said bisectBound_fn)
end Go.Proofs.YtddlffkdpocmhaaGreatDoor

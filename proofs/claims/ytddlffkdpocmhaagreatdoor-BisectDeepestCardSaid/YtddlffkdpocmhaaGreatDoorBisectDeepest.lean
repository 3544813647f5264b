/- BisectDeepest answers true for every set of patches, and leaves it as it was: the tied card of its row. No condition beyond the row's own. -/
import Derived.Test.YtddlffkdpocmhaaGreatDoorWdab
namespace Go.Proofs.YtddlffkdpocmhaaGreatDoor
open Go

theorem bisectDeepest : Rows.BisectDeepestCardSaid := bisectDeepest_card (bisectDeepest_said bisectDeepest_fn)
end Go.Proofs.YtddlffkdpocmhaaGreatDoor

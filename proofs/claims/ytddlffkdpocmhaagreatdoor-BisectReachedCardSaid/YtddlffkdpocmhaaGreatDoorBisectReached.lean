/- BisectReached answers true for every set of patches and every list, and leaves both as they were: the tied card of its row. No condition beyond the row's own. -/
import Derived.Test.YtddlffkdpocmhaaGreatDoorWrad
namespace Go.Proofs.YtddlffkdpocmhaaGreatDoor
open Go

theorem bisectReached : Rows.BisectReachedCardSaid := bisectReached_card (bisectReached_said bisectReached_fn)
end Go.Proofs.YtddlffkdpocmhaaGreatDoor

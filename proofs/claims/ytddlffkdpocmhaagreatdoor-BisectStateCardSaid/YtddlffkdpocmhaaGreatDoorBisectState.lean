/- BisectState answers true for every set of patches, every search and every answer, and leaves them as they were: the tied card of its row. No condition beyond the row's own. -/
import Derived.Test.YtddlffkdpocmhaaGreatDoorWsad
namespace Go.Proofs.YtddlffkdpocmhaaGreatDoor
open Go

theorem bisectState : Rows.BisectStateCardSaid := bisectState_card (bisectState_said bisectState_fn)
end Go.Proofs.YtddlffkdpocmhaaGreatDoor

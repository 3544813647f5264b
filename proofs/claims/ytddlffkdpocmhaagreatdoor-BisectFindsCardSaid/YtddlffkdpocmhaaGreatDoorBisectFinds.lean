/- BisectFinds answers true for every set of patches and every list, and leaves both as they were: the tied card of its row. No condition beyond the row's own. -/
import Derived.Test.YtddlffkdpocmhaaGreatDoorWfad
namespace Go.Proofs.YtddlffkdpocmhaaGreatDoor
open Go

theorem bisectFinds : Rows.BisectFindsCardSaid := bisectFinds_card (bisectFinds_said bisectFinds_fn)
end Go.Proofs.YtddlffkdpocmhaaGreatDoor

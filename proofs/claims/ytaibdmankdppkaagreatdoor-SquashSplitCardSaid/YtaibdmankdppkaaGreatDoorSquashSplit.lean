/- SquashSplit answers true at all of its inputs, and leaves them as they were: the tied card of its row. No condition beyond the row's own. -/
import Derived.Test.YtaibdmankdppkaaGreatDoorVsab
namespace Go.Proofs.YtaibdmankdppkaaGreatDoor
open Go

theorem squashSplit : Rows.SquashSplitCardSaid := RH (RF Sp)
end Go.Proofs.YtaibdmankdppkaaGreatDoor

/- SquashSets answers true at all of its inputs, and leaves them as they were: the tied card of its row. No condition beyond the row's own. -/
import Derived.Test.YtaibdmankdppkaaGreatDoorUsab
namespace Go.Proofs.YtaibdmankdppkaaGreatDoor
open Go

theorem squashSets : Rows.SquashSetsCardSaid := SQ (SP Uh)
end Go.Proofs.YtaibdmankdppkaaGreatDoor

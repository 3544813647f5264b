/- SquashOne answers true at all of its inputs, and leaves them as they were: the tied card of its row. No condition beyond the row's own. -/
import Derived.Test.YtaibdmankdppkaaGreatDoorXoab
namespace Go.Proofs.YtaibdmankdppkaaGreatDoor
open Go

theorem squashOne : Rows.SquashOneCardSaid := Sa (SZ Vw)
end Go.Proofs.YtaibdmankdppkaaGreatDoor

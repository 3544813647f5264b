/- SquashSquash answers true at all of its inputs, and leaves them as they were: the tied card of its row. No condition beyond the row's own. -/
import Derived.Test.YtaibdmankdppkaaGreatDoorUqab
namespace Go.Proofs.YtaibdmankdppkaaGreatDoor
open Go

theorem squashSquash : Rows.SquashSquashCardSaid := QF (QE SO)
end Go.Proofs.YtaibdmankdppkaaGreatDoor

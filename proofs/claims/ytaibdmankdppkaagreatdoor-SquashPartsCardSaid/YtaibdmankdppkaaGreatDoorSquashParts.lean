/- SquashParts answers true at all of its inputs, and leaves them as they were: the tied card of its row. No condition beyond the row's own. -/
import Derived.Test.YtaibdmankdppkaaGreatDoorZpab
namespace Go.Proofs.YtaibdmankdppkaaGreatDoor
open Go

theorem squashParts : Rows.SquashPartsCardSaid := Rb (Ra TQ)
end Go.Proofs.YtaibdmankdppkaaGreatDoor

/- SquashAtoms answers true at all of its inputs, and leaves them as they were: the tied card of its row. No condition beyond the row's own. -/
import Derived.Test.YtaibdmankdppkaaGreatDoorYoab
namespace Go.Proofs.YtaibdmankdppkaaGreatDoor
open Go

theorem squashAtoms : Rows.SquashAtomsCardSaid := RM (RL TF)
end Go.Proofs.YtaibdmankdppkaaGreatDoor

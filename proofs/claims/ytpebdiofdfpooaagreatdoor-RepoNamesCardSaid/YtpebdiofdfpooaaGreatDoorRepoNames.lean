/- RepoNames answers true at all of its inputs, and leaves them as they were: the tied card of its row. No condition beyond the row's own. -/
import Derived.Test.YtpebdiofdfpooaaGreatDoorWnab
namespace Go.Proofs.YtpebdiofdfpooaaGreatDoor
open Go

theorem repoNames : Rows.RepoNamesCardSaid := SB (SA Vk)
end Go.Proofs.YtpebdiofdfpooaaGreatDoor

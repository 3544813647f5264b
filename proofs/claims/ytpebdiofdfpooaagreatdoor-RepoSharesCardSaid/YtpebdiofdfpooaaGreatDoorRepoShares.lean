/- RepoShares answers true at all of its inputs, and leaves them as they were: the tied card of its row. No condition beyond the row's own. -/
import Derived.Test.YtpebdiofdfpooaaGreatDoorUsab
namespace Go.Proofs.YtpebdiofdfpooaaGreatDoor
open Go

theorem repoShares : Rows.RepoSharesCardSaid := SA (S9 UR)
end Go.Proofs.YtpebdiofdfpooaaGreatDoor

/- RepoTags answers true at all of its inputs, and leaves them as they were: the tied card of its row. No condition beyond the row's own. -/
import Derived.Test.YtpebdiofdfpooaaGreatDoorUtab
namespace Go.Proofs.YtpebdiofdfpooaaGreatDoor
open Go

theorem repoTags : Rows.RepoTagsCardSaid := UQ (UO YS)
end Go.Proofs.YtpebdiofdfpooaaGreatDoor

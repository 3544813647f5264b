/- RepoIndependent answers true at all of its inputs, and leaves them as they were: the tied card of its row. No condition beyond the row's own. -/
import Derived.Test.YtpebdiofdfpooaaGreatDoorUiab
namespace Go.Proofs.YtpebdiofdfpooaaGreatDoor
open Go

theorem repoIndependent : Rows.RepoIndependentCardSaid := Ng (Nf PK)
end Go.Proofs.YtpebdiofdfpooaaGreatDoor

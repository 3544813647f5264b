/- RepoCollects answers true at all of its inputs, and leaves them as they were: the tied card of its row. No condition beyond the row's own. -/
import Derived.Test.YtpebdiofdfpooaaGreatDoorUlab
namespace Go.Proofs.YtpebdiofdfpooaaGreatDoor
open Go

theorem repoCollects : Rows.RepoCollectsCardSaid := Q9 (Q8 SD)
end Go.Proofs.YtpebdiofdfpooaaGreatDoor

/- RepoCheck answers true at all of its inputs, and leaves them as they were: the tied card of its row. No condition beyond the row's own. -/
import Derived.Test.YtpebdiofdfpooaaGreatDoorWcab
namespace Go.Proofs.YtpebdiofdfpooaaGreatDoor
open Go

theorem repoCheck : Rows.RepoCheckCardSaid := SD (SC Vl)
end Go.Proofs.YtpebdiofdfpooaaGreatDoor

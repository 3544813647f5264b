/- RepoValid answers true at all of its inputs, and leaves them as they were: the tied card of its row. No condition beyond the row's own. -/
import Derived.Test.YtpebdiofdfpooaaGreatDoorUvab
namespace Go.Proofs.YtpebdiofdfpooaaGreatDoor
open Go

theorem repoValid : Rows.RepoValidCardSaid := Su (Ss Wv)
end Go.Proofs.YtpebdiofdfpooaaGreatDoor

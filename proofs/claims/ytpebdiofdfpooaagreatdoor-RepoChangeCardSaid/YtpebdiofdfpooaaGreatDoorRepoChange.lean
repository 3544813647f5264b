/- RepoChange answers true at all of its inputs, and leaves them as they were: the tied card of its row. No condition beyond the row's own. -/
import Derived.Test.YtpebdiofdfpooaaGreatDoorWhab
namespace Go.Proofs.YtpebdiofdfpooaaGreatDoor
open Go

theorem repoChange : Rows.RepoChangeCardSaid := RS (RR Ti)
end Go.Proofs.YtpebdiofdfpooaaGreatDoor

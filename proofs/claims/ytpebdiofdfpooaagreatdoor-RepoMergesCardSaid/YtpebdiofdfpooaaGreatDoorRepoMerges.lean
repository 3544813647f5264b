/- RepoMerges answers true at all of its inputs, and leaves them as they were: the tied card of its row. No condition beyond the row's own. -/
import Derived.Test.YtpebdiofdfpooaaGreatDoorUmab
namespace Go.Proofs.YtpebdiofdfpooaaGreatDoor
open Go

theorem repoMerges : Rows.RepoMergesCardSaid := SC (SB (fun r n s ta t tb => UU r n s t ta tb))
end Go.Proofs.YtpebdiofdfpooaaGreatDoor

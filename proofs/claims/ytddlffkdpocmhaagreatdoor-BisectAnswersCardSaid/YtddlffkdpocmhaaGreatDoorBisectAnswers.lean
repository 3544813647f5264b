/- BisectAnswers answers true for every set of patches and every list of answers, and leaves both as they were: the tied card of its row. No condition beyond the row's own. -/
import Derived.Test.YtddlffkdpocmhaaGreatDoorVav
namespace Go.Proofs.YtddlffkdpocmhaaGreatDoor
open Go

theorem bisectAnswers : Rows.BisectAnswersCardSaid := bisectAnswers_card (bisectAnswers_said bisectAnswers_fn)
end Go.Proofs.YtddlffkdpocmhaaGreatDoor

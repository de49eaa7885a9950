/- WordsExamples, the plain law. -/
import Derived.Test.YtfbpbmnlbcnanaaDoorWWordsExamples
namespace Go.Proofs.YtfbpbmnlbcnanaaDoor
open Go.Dc
theorem wordsExamples_plain : law3_WordsExamples_m = some true := by decide +kernel
end Go.Proofs.YtfbpbmnlbcnanaaDoor

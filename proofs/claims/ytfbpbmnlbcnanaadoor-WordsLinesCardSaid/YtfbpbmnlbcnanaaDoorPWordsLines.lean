/- WordsLines, the plain law. -/
import Derived.Test.YtfbpbmnlbcnanaaDoorVc
import Derived.Test.YtfbpbmnlbcnanaaDoorWWordsLines
namespace Go.Proofs.YtfbpbmnlbcnanaaDoor
open Go.Dc
theorem wordsLines_plain (s : Str) (l : List UInt8) (_ : Wf.wf s) (_ : Wf.wf l) : law3_WordsLines_m s l = some true := by
  unfold law3_WordsLines_m
  obtain ⟨q, hq, _⟩ := pieces_m l
  rw [awake3, Option.bind_some, whn_t rfl, sameLines_m, Option.bind_some, Bool.and_self, whn_t rfl, hq, Option.bind_some, whn_t rfl, sameLines_m, Option.bind_some]
  rfl
end Go.Proofs.YtfbpbmnlbcnanaaDoor

/- LayoutRaw, the plain law. -/
import Derived.Test.YtohhihdjdelckaaDoorFc
import Derived.Test.YtohhihdjdelckaaDoorOpens
import Derived.Test.YtohhihdjdelckaaDoorWLayoutRaw
set_option linter.all false
namespace Go.Proofs.YtohhihdjdelckaaDoor
open Go.Dc
theorem layoutRaw_plain (l : Layout) (s : Step) (_ : Wf.wf l) (_ : Wf.wf s) : law4_LayoutRaw_m l s = some true := by
  unfold law4_LayoutRaw_m
  rw [awake4, queries_m, Option.bind_some, whn_v, Option.bind_some]
  rfl
end Go.Proofs.YtohhihdjdelckaaDoor

/- What is read at the types of the program is plain data. -/
import Derived.Test.YtfbpbmnlbcnanaaDoorTypes
import Derived.Test.YtfbpbmnlbcnanaaDoorD11
set_option linter.all false
namespace Go.Proofs.YtfbpbmnlbcnanaaDoor
open Go.Dc Go.RowKit
set_option maxRecDepth 10000
instance : Wf Word := ⟨fun x => Wf.wf x.Text ∧ Wf.wf x.Line ∧ Wf.wf x.Col⟩
end Go.Proofs.YtfbpbmnlbcnanaaDoor

/- Engine of the decompiler, part 18: how much is read: the bulk of an argument. -/
import Derived.Test.YtfbpbmnlbcnanaaDoorD11
namespace Go.Dc
open Go.RowKit GoRep Wf

section
variable {P : Program} {t e : TypeId} {ub : (H : Type) → DataW H → Nat}
end
end Go.Dc

/- LayoutQueries, the plain law. -/
import Derived.Test.YtohhihdjdelckaaDoorFm
import Derived.Test.YtohhihdjdelckaaDoorGb
import Derived.Test.YtohhihdjdelckaaDoorTs
import Derived.Test.YtohhihdjdelckaaDoorOpens
import Derived.Test.YtohhihdjdelckaaDoorWLayoutQueries
set_option linter.all false
namespace Go.Proofs.YtohhihdjdelckaaDoor
open Go.Dc
theorem layoutQueries_plain (l : List Int) (v : Int) (hl : Wf.wf l) (hv : -9223372036854775808 ≤ v ∧ v ≤ 9223372036854775807) : law4_LayoutQueries_m l v = some true := by
  obtain ⟨x, hx, g⟩ := layout_m l (by have : l.length * 8 ≤ 140737488351232 := hl.1; omega)
  have hf := check_full (gen_check g)
  obtain ⟨s, hs⟩ := step_some' x (by omega) v hv
  unfold law4_LayoutQueries_m
  rw [hx, Option.bind_some, awake4, Option.bind_some, show layout_Check_m x = some (checkL (layOf x)) from rfl, gen_check g, whn_v, Option.bind_some, hs, whn_v, Option.bind_some]
  rw [queries_m, whn_v, Option.bind_some]
  rfl
end Go.Proofs.YtohhihdjdelckaaDoor

/- CirculationErrors, the plain law. -/
import Derived.Test.YtedocibniankjaaPe
import Derived.Test.YtedocibniankjaaOpens
import Derived.Test.YtedocibniankjaaCe
import Derived.Test.YtedocibniankjaaWCirculationErrors
namespace Go.Proofs.Ytedocibniankjaa
open Go.Dc

theorem circErrors_plain (t : List Task) (r : Rules) (next chain : List Int) (_ : Wf.wf t) (_ : Wf.wf r) (_ : Wf.wf next) (_ : Wf.wf chain) : law28_CirculationErrors_m t r next chain = some true := by
  unfold law28_CirculationErrors_m
  rw [checkTR_m]
  simp only [Option.bind_some]
  cases h : tasksB t r with
  | true => rw [if_pos rfl, awake28]; rfl
  | false =>
    have hb : circulation_Build_m t r = some ([], Cover.mk [] [], 1) := by
      unfold circulation_Build_m
      rw [checkT_m, h]; rfl
    have he : circulation_Empty_m t r next = some (0, 1) := by
      unfold circulation_Empty_m
      rw [checkT_m, h]; rfl
    have hs : circulation_Split_m t r chain = some ([], 1) := by
      unfold circulation_Split_m
      rw [checkT_m, h]; rfl
    rw [if_neg (by decide), hb, he, hs, awake28]
    simp
end Go.Proofs.Ytedocibniankjaa

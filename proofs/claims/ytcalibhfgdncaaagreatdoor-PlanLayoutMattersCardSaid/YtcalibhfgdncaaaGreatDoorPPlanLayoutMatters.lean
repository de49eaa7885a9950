/- PlanLayoutMatters, the plain law. -/
import Derived.Test.YtcalibhfgdncaaaGreatDoorKp
import Derived.Test.YtcalibhfgdncaaaGreatDoorOpens
import Derived.Test.YtcalibhfgdncaaaGreatDoorWPlanLayoutMatters
namespace Go.Proofs.YtcalibhfgdncaaaGreatDoor
open Go.Dc
set_option maxRecDepth 100000
theorem bindE' {α β : Type} {o : Option α} {x : α} {K : α → Option β} {r : Option β} (h : o = some x) (h2 : K x = r) : o.bind K = r := by rw [h]; exact h2
theorem awake10 : law10_awake_m = some true := by decide +kernel
theorem sizes_bad {l : Layout} (h : checkL (layOf l) ≠ 0) (p : Plan) : plan_checkSizes_m l p = some 1 := by
  unfold plan_checkSizes_m
  exact bindE' (x := checkL (layOf l)) rfl (if_pos (by simpa using h))
theorem check_bad {l : Layout} (h : checkL (layOf l) ≠ 0) (p : Plan) : plan_Check_m l p = some 1 := by
  unfold plan_Check_m
  obtain ⟨n, hn⟩ : ∃ n, FUEL = n + 1 := ⟨18446744073709551615, rfl⟩
  rw [hn]
  have e : plan_Check_b1 l p (iter (plan_Check_b1 l p) n) 0 = (plan_checkSizes_m l p).bind fun y7 => if decide (y7 ≠ 0) then some y7 else iter (plan_Check_b1 l p) n 1 := rfl
  refine e.trans (bindE' (sizes_bad h p) (if_pos (by decide)))
theorem planLayoutMatters_plain (raw : Layout) (l : List Int) (_ : Wf.wf raw) (hl : Wf.wf l) : law10_PlanLayoutMatters_m raw l = some true := by
  obtain ⟨y, hy, _⟩ := plan_wp l (by have : l.length * 8 ≤ 140737488351232 := hl.1; omega)
  unfold law10_PlanLayoutMatters_m
  refine bindE' hy (bindE' (check_r raw) ?_)
  by_cases h : checkL (layOf raw) = 0
  · exact (if_pos (by simpa using h)).trans (bindE' awake10 rfl)
  · refine (if_neg (by simpa using h)).trans ?_
    have hf : plan_Format_m raw y.2 = some (⟨[]⟩, 1) := by
      unfold plan_Format_m
      exact bindE' (check_bad h y.2) (if_pos (by decide))
    refine bindE' hf (bindE' rfl ?_)
    refine bindE' (x := (Plan.mk 0 [] [] [] [] [] [] [], 0, 1)) ?_ ?_
    · unfold plan_Parse_m
      exact bindE' (x := checkL (layOf raw)) rfl (if_pos (by simpa using h))
    · unfold law10_PlanLayoutMatters_k1
      refine bindE' awake10 (bindE' (x := 1) ?_ rfl)
      exact check_bad h y.2
end Go.Proofs.YtcalibhfgdncaaaGreatDoor

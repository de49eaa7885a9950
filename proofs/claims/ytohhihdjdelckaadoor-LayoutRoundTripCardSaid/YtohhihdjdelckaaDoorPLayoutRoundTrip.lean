/- LayoutRoundTrip, the plain law. -/
import Derived.Test.YtohhihdjdelckaaDoorFm
import Derived.Test.YtohhihdjdelckaaDoorGb
import Derived.Test.YtohhihdjdelckaaDoorOpens
import Derived.Test.YtohhihdjdelckaaDoorWLayoutRoundTrip
set_option linter.all false
namespace Go.Proofs.YtohhihdjdelckaaDoor
open Go.Dc
theorem shapes_small : shapes.all (fun p => decide ((shape p.1 p.2).Stations.length + (shape p.1 p.2).Points.length + (shape p.1 p.2).Sections.length + (shape p.1 p.2).Links.length ≤ 300)) = true := by decide +kernel
theorem gen_small {l : Layout} (h : GenL l) : (fmtL l).length ≤ 300 := by
  obtain ⟨_, p, hp, he⟩ := h
  have := List.all_eq_true.1 shapes_small p hp
  rw [← he] at this
  simp only [erase, List.length_map, decide_eq_true_eq] at this
  unfold fmtL
  simp only [List.length_append, List.length_map]
  omega
theorem layoutRoundTrip_plain (l : List Int) (hl : Wf.wf l) : law4_LayoutRoundTrip_m l = some true := by
  obtain ⟨x, hx, g⟩ := layout_m l (by have : l.length * 8 ≤ 140737488351232 := hl.1; omega)
  have hc := gen_check g
  have hf := check_full hc
  have hs := gen_small g
  unfold law4_LayoutRoundTrip_m
  refine bindE hx (bindE (format_m x) (bindE (parse_m _) (bindE awake4 ?_)))
  rw [parse_fmt hc hs, sameLay_m x ⟨by omega, by omega, by omega, by omega⟩]
  rfl
end Go.Proofs.YtohhihdjdelckaaDoor

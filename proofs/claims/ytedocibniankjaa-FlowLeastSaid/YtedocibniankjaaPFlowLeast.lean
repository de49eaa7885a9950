/- FlowLeast, the plain law. -/
import Derived.Test.YtedocibniankjaaQa
import Derived.Test.YtedocibniankjaaWFlowLeast
namespace Go.Proofs.Ytedocibniankjaa
open Go.Dc

theorem flowLeast_plain (l : List Int) (hl : Wf.wf l) : law27_FlowLeast_m l = some true := by
  refine wp_true ?_
  unfold law27_FlowLeast_m
  refine wp_bind _ (graph_wp l (wf_len hl)) ?_
  intro g G
  refine wp_bind _ (solve_total g G.valid) ?_
  rintro ⟨f, e⟩ hs
  refine wp_bind _ (least_wp g G) ?_
  rintro ⟨c, ok⟩ ⟨h1, h2⟩
  simp only at h1 h2
  refine wp_eq awake27 (wp_some ?_)
  rcases hs with ⟨he, o⟩ | ⟨he, S, hS⟩
  · simp only at he o
    cases hok : ok with
    | false => exact absurd o.feas (h2 hok f.X)
    | true =>
      obtain ⟨⟨X, F, hX⟩, hmin⟩ := h1 hok
      have a := o.least G.valid F
      have b := hmin _ o.feas
      have c := o.cost
      simp [he]; omega
  · obtain ⟨rfl, rfl⟩ := Prod.mk.inj he
    cases hok : ok with
    | false => simp
    | true =>
      obtain ⟨⟨X, F, hX⟩, hmin⟩ := h1 hok
      exact absurd F (fun F => cut_no G.valid hS F)
end Go.Proofs.Ytedocibniankjaa

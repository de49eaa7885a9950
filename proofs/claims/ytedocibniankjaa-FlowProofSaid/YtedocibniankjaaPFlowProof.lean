/- FlowProof, the plain law. -/
import Derived.Test.YtedocibniankjaaQc
import Derived.Test.YtedocibniankjaaWFlowProof
namespace Go.Proofs.Ytedocibniankjaa
open Go.Dc

theorem flowProof_plain (l : List Int) (hl : Wf.wf l) : law27_FlowProof_m l = some true := by
  refine wp_true ?_
  unfold law27_FlowProof_m
  refine wp_bind _ (graph_wp l (wf_len hl)) ?_
  intro g G
  have V := G.valid
  rcases both g V with ⟨f, hs, o, hc⟩ | ⟨hs, inn, hl, hc, hp⟩
  · refine wp_eq hs (wp_eq hc (wp_ite (fun _ => ?_) (fun h => by simp at h)))
    refine wp_eq awake27 ?_
    simp only
    rw [verifyFlow_m, o.verify V]
    exact wp_some (by simp)
  · refine wp_eq hs (wp_eq hc (wp_ite (fun h => by simp at h) (fun _ => wp_ite (fun _ => ?_) (fun h => by simp at h))))
    refine wp_eq awake27 ?_
    simp only
    rw [excess_val g V inn hl]
    exact wp_some (by simp [hp])
end Go.Proofs.Ytedocibniankjaa

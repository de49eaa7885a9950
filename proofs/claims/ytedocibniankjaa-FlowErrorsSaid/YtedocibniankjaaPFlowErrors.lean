/- FlowErrors, the plain law. -/
import Derived.Test.YtedocibniankjaaQc
import Derived.Test.YtedocibniankjaaWFlowErrors
namespace Go.Proofs.Ytedocibniankjaa
open Go.Dc

/-- Solve and Cut of any network. -/
theorem solve_cut (g : Graph) : ∃ f e s b, flow_Solve_m g = some (f, e) ∧ flow_Cut_m g = some (s, b) ∧ (checkB g = false → e = 1 ∧ b = false) := by
  cases h : checkB g with
  | false => exact ⟨_, _, _, _, solve_bad g h, cut_bad g h, fun _ => ⟨rfl, rfl⟩⟩
  | true =>
    rcases both g ((valid_iff g).1 h) with ⟨f, hs, _, hc⟩ | ⟨hs, inn, _, hc, _⟩
    · exact ⟨_, _, _, _, hs, hc, fun h => by cases h⟩
    · exact ⟨_, _, _, _, hs, hc, fun h => by cases h⟩

theorem flowErrors_k (g : Graph) (x : List Int × List Arc) : WP (law27_FlowErrors_k1 g x) (fun b => b = true) := by
  obtain ⟨s, a⟩ := x
  obtain ⟨f1, e1, s1, b1, h1, h2, h3⟩ := solve_cut (Graph.mk s a)
  obtain ⟨f2, e2, s2, b2, h4, h5, h6⟩ := solve_cut g
  simp only [law27_FlowErrors_k1]
  refine wp_eq h1 (wp_eq h2 (wp_eq (checkG_m _) ?_))
  rw [check_m]
  have fin : WP ((flow_Solve_m g).bind fun y18 => (flow_Cut_m g).bind fun y21 => (law27_awake_m).bind fun y24 => (whn y24 default (ref24_CheckGraph_m g)).bind fun y26 => some (y24 && (y26 || (decide (y18.2 = 1) && (!y21.2))))) (fun b => b = true) := by
    refine wp_eq h4 (wp_eq h5 (wp_eq awake27 ?_))
    rw [checkG_m]
    refine wp_whn (fun _ => ?_) (fun h => by cases h)
    refine wp_some ?_
    cases hc : checkB g with
    | true => simp
    | false =>
      obtain ⟨rfl, rfl⟩ := h6 hc
      simp
  cases hc : checkB (Graph.mk s a) with
  | true =>
    refine wp_whn (fun h => by simp at h) (fun _ => wp_ite (fun h => by simp at h) (fun _ => fin))
  | false =>
    obtain ⟨rfl, rfl⟩ := h3 hc
    refine wp_whn (fun _ => wp_eq rfl ?_) (fun h => by simp at h)
    refine wp_ite (fun h => by simp at h) (fun _ => fin)

theorem flowErrors_plain (g : Graph) (l : List Int) (how at_ v : Int) (_ : Wf.wf g) (hl : Wf.wf l) (_ : -9223372036854775808 ≤ how ∧ how ≤ 9223372036854775807) (_ : -9223372036854775808 ≤ at_ ∧ at_ ≤ 9223372036854775807) (_ : -9223372036854775808 ≤ v ∧ v ≤ 9223372036854775807) :
    law27_FlowErrors_m g l how at_ v = some true := by
  refine wp_true ?_
  unfold law27_FlowErrors_m
  refine wp_bind _ (graph_wp l (wf_len hl)) ?_
  intro h G
  have n1 := G.n1
  have n2 := G.n2
  have m := G.m
  refine wp_bind _ (pick_wp how 5 (by omega) (by omega)) ?_
  rintro k ⟨k0, k1⟩
  refine wp_ite (fun _ => ?_) (fun _ => wp_ite (fun _ => ?_) (fun _ => wp_ite (fun _ => ?_) (fun _ => wp_ite (fun _ => ?_) (fun _ => flowErrors_k g _))))
  · refine wp_bind _ (pick_wp at_ _ (by omega) (by omega)) ?_
    rintro a ⟨a0, a1⟩
    have := G.sup a a0 a1
    exact wp_idxi (by omega) (wp_i64 (by omega) (wp_idxi (by omega) (flowErrors_k g _)))
  · refine wp_bind _ (pick_wp at_ 5 (by omega) (by omega)) ?_
    rintro a ⟨a0, a1⟩
    refine wp_i64 (by omega) ?_
    refine wp_bind _ (pick_wp v 5 (by omega) (by omega)) ?_
    rintro b ⟨b0, b1⟩
    exact wp_chk (by simp; omega) (flowErrors_k g _)
  · refine wp_bind _ (pick_wp v 3 (by omega) (by omega)) ?_
    rintro b ⟨b0, b1⟩
    exact wp_i64 (by omega) (wp_chk (by simp; omega) (flowErrors_k g _))
  · refine wp_bind _ (pick_wp v 2 (by omega) (by omega)) ?_
    rintro b ⟨b0, b1⟩
    exact wp_i64 (by omega) (wp_chk (by simp; omega) (flowErrors_k g _))
end Go.Proofs.Ytedocibniankjaa

/- FlowReverse, the plain law. -/
import Derived.Test.YtedocibniankjaaQb
import Derived.Test.YtedocibniankjaaWFlowReverse
namespace Go.Proofs.Ytedocibniankjaa
open Go.Dc

def revG (g : Graph) : Graph := Graph.mk (g.Supply.map (fun x => -x)) (g.Arcs.map (fun a => Arc.mk a.To a.From a.Cap a.Cost))

theorem rev_valid {g : Graph} (G : GoodG g) : Valid (revG g) := by
  have V := G.valid
  refine ⟨by simp [revG]; exact V.n1, by simp [revG]; exact V.n2, by simp [revG]; exact V.m, ?_, ?_, by simp only [revG]; rw [sum_map_neg, V.sum]; rfl⟩
  · intro x hx
    simp only [revG, List.mem_map] at hx
    obtain ⟨y, hy, rfl⟩ := hx
    have := V.sup y hy
    omega
  · intro a ha
    simp only [revG, List.mem_map] at ha
    obtain ⟨b, hb, rfl⟩ := ha
    obtain ⟨v1, v2, v3, v4, v5, v6, v7, v8, v9⟩ := V.arc b hb
    simp only [revG, List.length_map]
    exact ⟨v3, v4, v1, v2, Ne.symm v5, v6, v7, v8, v9⟩

theorem rev_net (g : Graph) (X : List Int) (v : Int) : netf (revG g) X v = - netf g X v := by
  unfold netf revG
  simp only [List.length_map]
  rw [← sumTo_neg]
  refine sumTo_congr (fun i i0 i1 => ?_)
  rw [ar_map _ _ i0 i1]
  simp only
  rw [← Int.mul_neg]
  congr 1
  omega
theorem rev_feas (g : Graph) (X : List Int) : Feas (revG g) X ↔ Feas g X := by
  have hc : ∀ v : Int, 0 ≤ v → v < g.Supply.length → (netf (revG g) X v = gi (revG g).Supply v ↔ netf g X v = gi g.Supply v) := fun v v0 v1 => by
    rw [rev_net]
    simp only [revG]
    rw [gi_map _ _ v0 v1]
    omega
  constructor
  · rintro ⟨h1, h2, h3⟩
    simp only [revG, List.length_map] at h1 h2 h3
    exact ⟨h1, fun i i0 i1 => by have := h2 i i0 i1; rw [ar_map _ _ i0 i1] at this; exact this, fun v v0 v1 => (hc v v0 v1).1 (h3 v v0 v1)⟩
  · rintro ⟨h1, h2, h3⟩
    refine ⟨by simp only [revG, List.length_map]; exact h1, fun i i0 i1 => ?_, fun v v0 v1 => ?_⟩
    · simp only [revG, List.length_map] at i1 ⊢
      rw [ar_map _ _ i0 i1]; exact h2 i i0 i1
    · simp only [revG, List.length_map] at v1
      exact (hc v v0 v1).2 (h3 v v0 v1)
theorem rev_cost (g : Graph) (X : List Int) : costS (revG g) X = costS g X := by
  unfold costS revG
  simp only [List.length_map]
  exact sumTo_congr (fun i i0 i1 => by rw [ar_map _ _ i0 i1])

theorem flowReverse_plain (l : List Int) (hl : Wf.wf l) : law27_FlowReverse_m l = some true := by
  refine wp_true ?_
  unfold law27_FlowReverse_m
  refine wp_bind _ (graph_wp l (wf_len hl)) ?_
  intro g G
  have n2 := G.n2
  have m := G.m
  have V := G.valid
  refine wp_iter (fun (t : List Int × Nat) => t.2 ≤ g.Supply.length ∧ t.1 = (g.Supply.take t.2).map (fun x => -x)) (fun t => 10 - t.2) _ ?_ FUEL _ ⟨Nat.zero_le _, by simp⟩ (fuel_of (by simp only; omega))
  rintro c ⟨s, t⟩ ⟨ht, e⟩ hc
  simp only at ht e hc
  subst e
  simp only [law27_FlowReverse_b1]
  refine wp_ite (fun h => ?_) (fun h => ?_)
  · simp only [decide_eq_true_eq] at h
    have hlt : t < g.Supply.length := by omega
    have sb := V.sup _ (List.getElem_mem hlt)
    refine wp_idx (x := g.Supply[t]) (by omega) (by simp [hlt]) (wp_i64 (by omega) (wp_chk (by simp; omega) (hc _ ⟨by simp only; omega, ?_⟩ (by simp only; omega))))
    simp only
    rw [List.take_succ_eq_append_getElem hlt, List.map_append]; rfl
  · simp only [decide_eq_false_iff_not] at h
    obtain rfl : t = g.Supply.length := by omega
    rw [List.take_length]
    simp only [law27_FlowReverse_k1]
    refine wp_iter (fun (t : List Arc × Nat) => t.2 ≤ g.Arcs.length ∧ t.1 = (g.Arcs.take t.2).map (fun a => Arc.mk a.To a.From a.Cap a.Cost)) (fun t => 10 - t.2) _ ?_ FUEL _ ⟨Nat.zero_le _, by simp⟩ (fuel_of (by simp only; omega))
    rintro c2 ⟨aa, t⟩ ⟨ht, e⟩ hc2
    simp only at ht e hc2
    subst e
    simp only [law27_FlowReverse_b2]
    refine wp_ite (fun h => ?_) (fun h => ?_)
    · simp only [decide_eq_true_eq] at h
      have hlt : t < g.Arcs.length := by omega
      refine wp_idx (x := g.Arcs[t]) (by omega) (by simp [hlt]) (wp_chk (by simp; omega) (hc2 _ ⟨by simp only; omega, ?_⟩ (by simp only; omega)))
      simp only
      rw [List.take_succ_eq_append_getElem hlt, List.map_append]; rfl
    · simp only [decide_eq_false_iff_not] at h
      obtain rfl : t = g.Arcs.length := by omega
      rw [List.take_length]
      simp only [law27_FlowReverse_k2]
      have RV := rev_valid G
      refine wp_bind _ (least_wp g G) ?_
      rintro ⟨c, ok⟩ ⟨h1, h2⟩
      simp only at h1 h2
      cases ok with
      | false =>
        have hn := solve_none RV (fun Y F => h2 rfl Y ((rev_feas g Y).1 F))
        refine wp_eq hn.1 (wp_ite (fun _ => ?_) (fun h => by cases h))
        exact wp_eq awake27 (wp_some (by simp))
      | true =>
        obtain ⟨⟨X, F, hX⟩, hmin⟩ := h1 rfl
        obtain ⟨f, hf, o⟩ := solve_ok RV ((rev_feas g X).2 F)
        have a := o.least RV ((rev_feas g X).2 F)
        have b := hmin _ ((rev_feas g _).1 o.feas)
        have d := o.cost
        rw [rev_cost] at a d
        have hcost : f.Cost = c := by omega
        refine wp_eq hf (wp_ite (fun h => by cases h) (fun _ => ?_))
        refine wp_eq awake27 ?_
        simp only [hcost]
        have hv : ref24_VerifyFlow_m (Graph.mk (g.Supply.map (fun x => -x)) (g.Arcs.map (fun a => Arc.mk a.To a.From a.Cap a.Cost))) f = some true := by
          rw [verifyFlow_m]; congr 1; exact o.verify RV
        rw [hv]
        exact wp_some (by simp)
end Go.Proofs.Ytedocibniankjaa

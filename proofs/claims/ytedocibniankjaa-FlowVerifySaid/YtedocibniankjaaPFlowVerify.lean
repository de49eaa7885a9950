/- FlowVerify, the plain law. -/
import Derived.Test.YtedocibniankjaaQa
import Derived.Test.YtedocibniankjaaWFlowVerify
namespace Go.Proofs.Ytedocibniankjaa
open Go.Dc

theorem flowVerify_k (g : Graph) (x : List Int × List Int × Int) : WP (law27_FlowVerify_k1 g x) (fun b => b = true) := by
  obtain ⟨X, P, c⟩ := x
  simp only [law27_FlowVerify_k1]
  refine wp_eq awake27 ?_
  rw [verify_m, verifyFlow_m]
  exact wp_some (by simp)

theorem cost_bd {g : Graph} (G : GoodG g) {f : Flow} (o : Opt g f) : -1000 ≤ f.Cost ∧ f.Cost ≤ 1000 := by
  have hm := G.m
  rw [o.cost]
  unfold costS
  have key : ∀ n : Nat, n ≤ g.Arcs.length → -(14 * (n : Int)) ≤ sumTo (fun i => gi f.X i * (ar g.Arcs i).Cost) n ∧ sumTo (fun i => gi f.X i * (ar g.Arcs i).Cost) n ≤ 14 * (n : Int) := by
    intro n
    induction n with
    | zero => intro _; simp [sumTo]
    | succ n ih =>
      intro h
      have a := ih (by omega)
      obtain ⟨x0, x1⟩ := o.feas.rng n (by omega) (by omega)
      obtain ⟨_, _, _, _, _, v6, v7, v8, v9⟩ := G.arc _ (ar_mem (E := g.Arcs) (i := (n : Int)) (by omega) (by omega))
      have b1 : gi f.X n * (ar g.Arcs n).Cost ≤ gi f.X n * 7 := Int.mul_le_mul_of_nonneg_left v9 x0
      have b2 : gi f.X n * (-7) ≤ gi f.X n * (ar g.Arcs n).Cost := Int.mul_le_mul_of_nonneg_left (by omega) x0
      rw [sumTo]
      omega
  have := key g.Arcs.length (Nat.le_refl _)
  omega

theorem flowVerify_plain (l : List Int) (how at_ v : Int) (hl : Wf.wf l) (_ : -9223372036854775808 ≤ how ∧ how ≤ 9223372036854775807) (_ : -9223372036854775808 ≤ at_ ∧ at_ ≤ 9223372036854775807) (_ : -9223372036854775808 ≤ v ∧ v ≤ 9223372036854775807) :
    law27_FlowVerify_m l how at_ v = some true := by
  refine wp_true ?_
  unfold law27_FlowVerify_m
  refine wp_bind _ (graph_wp l (wf_len hl)) ?_
  intro g G
  have n1 := G.n1
  have n2 := G.n2
  have m := G.m
  refine wp_bind _ (solve_total g G.valid) ?_
  rintro ⟨f, e⟩ hs
  rcases hs with ⟨he, o⟩ | ⟨he, S, hS⟩
  · simp only at he o
    subst he
    simp only
    rw [verifyFlow_m, o.verify G.valid]
    have e0 : decide ((0 : Int) ≠ 0) = false := by decide
    have lp := o.lp
    have lx := o.feas.len
    have cb := cost_bd G o
    rw [e0]
    refine wp_eq (y := true) rfl ?_
    refine wp_ite (fun h => by cases h) (fun _ => ?_)
    refine wp_bind _ (pick_wp v 7 (by omega) (by omega)) ?_
    rintro d ⟨d0, d1⟩
    refine wp_i64 (by omega) ?_
    refine wp_bind _ (pick_wp how 4 (by omega) (by omega)) ?_
    rintro k ⟨k0, k1⟩
    refine wp_ite (fun _ => ?_) (fun _ => ?_)
    · refine wp_chk (by simp; omega) ?_
      refine wp_bind _ (pick_wp at_ _ (by simp; omega) (by simp; omega)) ?_
      rintro a ⟨a0, a1⟩
      simp only [List.nil_append] at a1 ⊢
      have pb := o.pb a a0 (by omega)
      exact wp_idxi (by omega) (wp_i64 (by omega) (wp_idxi (by omega) (flowVerify_k g _)))
    · refine wp_ite (fun _ => ?_) (fun _ => ?_)
      · refine wp_ite (fun hx => ?_) (fun _ => flowVerify_k g _)
        simp only [decide_eq_true_eq] at hx
        refine wp_chk (by simp; omega) ?_
        refine wp_bind _ (pick_wp at_ _ (by simp; omega) (by simp; omega)) ?_
        rintro a ⟨a0, a1⟩
        simp only [List.nil_append] at a1 ⊢
        have fx := o.feas.rng a a0 (by omega)
        obtain ⟨_, _, _, _, _, v6, v7, _⟩ := G.arc _ (ar_mem (E := g.Arcs) a0 (by omega))
        exact wp_idxi (by omega) (wp_i64 (by omega) (wp_idxi (by omega) (flowVerify_k g _)))
      · refine wp_ite (fun _ => ?_) (fun _ => ?_)
        · exact wp_i64 (by omega) (flowVerify_k g _)
        · have hsub : ∃ r, sub f.Price 1 (f.Price.length : Int) = some r := by
            unfold sub
            rw [if_pos (by omega)]
            exact ⟨_, rfl⟩
          obtain ⟨r, hr⟩ := hsub
          exact wp_eq hr (flowVerify_k g _)
  · obtain ⟨rfl, rfl⟩ := Prod.mk.inj he
    have e0 : decide ((14 : Int) ≠ 0) = true := by decide
    simp only
    rw [e0]
    refine wp_eq (y := false) rfl ?_
    refine wp_ite (fun _ => ?_) (fun h => by cases h)
    exact wp_eq awake27 (wp_some (by simp))
end Go.Proofs.Ytedocibniankjaa

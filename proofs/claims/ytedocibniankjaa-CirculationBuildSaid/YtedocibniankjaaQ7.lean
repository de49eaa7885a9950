/- Plain laws of chapter 27: what Solve returns. -/
import Derived.Test.YtedocibniankjaaQ6
namespace Go.Proofs.Ytedocibniankjaa
open Go.Dc

theorem mul_bd {x c : Int} (x0 : 0 ≤ x) (x1 : x ≤ 1048576) (c0 : -1048576 ≤ c) (c1 : c ≤ 1048576) : -1099511627776 ≤ x * c ∧ x * c ≤ 1099511627776 := by
  have a : x * c ≤ x * 1048576 := Int.mul_le_mul_of_nonneg_left c1 x0
  have b : x * (-1048576) ≤ x * c := Int.mul_le_mul_of_nonneg_left c0 x0
  omega

/-- The flow on the arcs of the network. -/
def flowX (left : List Int) (A : Nat) : List Int := (List.range A).map (fun i : Nat => gi left (2 * (i : Int) + 1))
theorem flowX_len (left : List Int) (A : Nat) : (flowX left A).length = A := by simp [flowX]
theorem flowX_gi (left : List Int) (A : Nat) {i : Int} (i0 : 0 ≤ i) (i1 : i < A) : gi (flowX left A) i = gi left (2 * i + 1) := by
  have h : i.toNat < A := by omega
  unfold flowX
  show (List.map _ _).getD _ _ = _
  simp [h]
  congr 1
  omega
theorem flowX_succ (left : List Int) (A : Nat) : flowX left (A + 1) = flowX left A ++ [gi left (2 * (A : Int) + 1)] := by simp [flowX, List.range_succ]

theorem Solved.feas {g : Graph} (V : Valid g) {fr : List (List Int)} {left exc price : List Int} (F : Solved g fr left exc price) (hz : ∀ i : Int, (g.Arcs.length : Int) ≤ i → i < (arcsOf g).length → gi left (2 * i + 1) ≤ 0) : Feas g (flowX left g.Arcs.length) := by
  obtain ⟨C, c⟩ := F.c
  have len := c.s.len
  have A0 := c.s.A0
  refine ⟨flowX_len _ _, ?_, ?_⟩
  · intro i i0 i1
    rw [flowX_gi _ _ i0 i1]
    have cp := c.d.cap (2 * i) (by omega) (by omega)
    have x1 : xr (2 * i) = 2 * i + 1 := by unfold xr; rw [if_pos (by omega)]
    rw [x1, show 2 * i / 2 = i by omega, F.arc i0 i1] at cp
    have l0 := c.d.l0 (2 * i) (by omega) (by omega)
    have l1 := c.d.l0 (2 * i + 1) (by omega) (by omega)
    omega
  · intro v v0 v1
    have h := c.d.con v v0 (by omega)
    rw [F.z v v0 (by omega), gi_app1 _ _ v0 v1] at h
    rw [← h]
    unfold outf netf
    have key : ∀ k : Nat, g.Arcs.length + k ≤ (arcsOf g).length → sumTo (fun i => gi left (2 * i + 1) * ((if (ar (arcsOf g) i).From = v then 1 else 0) - (if (ar (arcsOf g) i).To = v then 1 else 0))) (g.Arcs.length + k) =
        sumTo (fun i => gi (flowX left g.Arcs.length) i * ((if (ar g.Arcs i).From = v then 1 else 0) - (if (ar g.Arcs i).To = v then 1 else 0))) g.Arcs.length := by
      intro k
      induction k with
      | zero =>
        intro _
        exact sumTo_congr (fun i i0 i1 => by
          have i2 : i < g.Arcs.length := i1
          rw [flowX_gi _ _ i0 i2, F.arc i0 i2])
      | succ k ih =>
        intro hk
        rw [← Nat.add_assoc, sumTo, ih (by omega)]
        have a := hz ((g.Arcs.length + k : Nat) : Int) (by omega) (by omega)
        have b := c.d.l0 (2 * ((g.Arcs.length + k : Nat) : Int) + 1) (by omega) (by omega)
        have : gi left (2 * ((g.Arcs.length + k : Nat) : Int) + 1) = 0 := by omega
        rw [this]; simp
    have := key ((arcsOf g).length - g.Arcs.length) (by omega)
    rw [show g.Arcs.length + ((arcsOf g).length - g.Arcs.length) = (arcsOf g).length by omega] at this
    rw [this]; omega

theorem solve_bad (g : Graph) (h : checkB g = false) : flow_Solve_m g = some (Flow.mk [] [] 0, 1) := by
  unfold flow_Solve_m
  rw [check_m, h]; rfl

theorem solve_total (g : Graph) (V : Valid g) : WP (flow_Solve_m g) (fun y => (y.2 = 0 ∧ Opt g y.1) ∨ (y = (Flow.mk [] [] 0, 14) ∧ ∃ S, 0 < cutv g S)) := by
  obtain ⟨fr, left, exc, price, h1, h2, F⟩ := run_wp g V
  obtain ⟨C, c⟩ := F.c
  have n1 := V.n1
  have m := V.m
  have len := c.s.len
  have A0 := c.s.A0
  unfold flow_Solve_m
  refine wp_bind (fun b => b = true) ⟨true, by rw [check_m, (valid_iff g).2 V], rfl⟩ ?_
  rintro _ rfl
  refine wp_ite (fun h => by cases h) (fun _ => ?_)
  refine wp_bind _ ⟨_, h1, rfl⟩ ?_
  rintro _ rfl
  refine wp_bind _ ⟨_, h2, rfl⟩ ?_
  rintro _ rfl
  dsimp only
  refine wp_bind _ (feas_wp c) ?_
  intro b hb
  refine wp_ite (fun hf => ?_) (fun hf => ?_)
  · simp only [Bool.not_eq_true'] at hf
    subst hf
    refine wp_some (Or.inr ⟨rfl, ?_⟩)
    obtain ⟨S, s1, s2, s3, s4⟩ := F.gap V
    refine ⟨S, F.cutpos V s1 s2 s3 (s4 _ (by omega)) ?_⟩
    refine Classical.byContradiction fun hno => ?_
    have : false = true := hb.2 (fun i i0 i1 => Classical.byContradiction fun hx => hno ⟨i, i0, i1, by omega⟩)
    cases this
  · simp only [Bool.not_eq_false'] at hf
    subst hf
    have hz := hb.1 rfl
    have fe := F.feas V hz
    refine wp_bind _ (prices_wp c) ?_
    rintro p ⟨lp, pb, pr⟩
    refine wp_iter (fun (t : List Int × Int × Nat) => t.2.2 ≤ g.Arcs.length ∧ t.1 = flowX left t.2.2 ∧ t.2.1 = sumTo (fun i => gi (flowX left g.Arcs.length) i * (ar g.Arcs i).Cost) t.2.2 ∧ -(1099511627776 * (t.2.2 : Int)) ≤ t.2.1 ∧ t.2.1 ≤ 1099511627776 * (t.2.2 : Int))
      (fun t => 10000 - t.2.2) _ ?_ FUEL _ ⟨Nat.zero_le _, rfl, rfl, by simp, by simp⟩ (fuel_of (by simp only; omega))
    rintro k ⟨X, cost, t⟩ ⟨ht, e1, e2, e3, e4⟩ hc
    simp only at ht e1 e2 e3 e4 hc
    subst e1
    simp only [flow_Solve_b1]
    refine wp_ite (fun h => ?_) (fun h => ?_)
    · simp only [decide_eq_true_eq] at h
      have hlt : t < g.Arcs.length := by omega
      have ll := c.d.ll
      have ea : ar g.Arcs t = g.Arcs[t] := ar_get (by simp [hlt])
      have fx := fe.rng t (by omega) h
      have gx := flowX_gi left g.Arcs.length (i := (t : Int)) (by omega) h
      rw [gx] at fx
      obtain ⟨v1, v2, v3, v4, v5, v6, v7, v8, v9⟩ := V.arc g.Arcs[t] (List.getElem_mem hlt)
      rw [ea] at fx
      have mb := mul_bd fx.1 (by omega) v8 v9
      refine wp_idx (x := g.Arcs[t]) (by omega) (by simp [hlt]) (wp_i64 (by omega) (wp_i64 (by omega) (wp_idxi (by omega) (wp_chk (by simp [flowX_len]; omega) (wp_i64 (by omega) (wp_i64 (by omega) ?_))))))
      refine hc _ ⟨by simp only; omega, by simp only; rw [flowX_succ], ?_, by simp only; omega, by simp only; omega⟩ (by simp only; omega)
      simp only
      rw [sumTo, ← e2, gx, ea]
    · simp only [decide_eq_false_iff_not] at h
      obtain rfl : t = g.Arcs.length := by omega
      simp only [flow_Solve_k1]
      refine wp_some (Or.inl ⟨rfl, fe, e2, by simp only; omega, fun v v0 v1 => by have := pb v v0 v1; simp only; omega, ?_⟩)
      intro i i0 i1
      have r2 : 2 * i < 2 * ((arcsOf g).length : Int) := by omega
      have q2 : 2 * i + 1 < 2 * ((arcsOf g).length : Int) := by omega
      have ea := F.arc i0 i1
      have t1 : gi (toL (arcsOf g)) (2 * i) = (ar g.Arcs i).To := by unfold toL; rw [flat2_even _ _ _ _ (by omega) r2 (by omega), show 2 * i / 2 = i by omega, ea]
      have t2 : gi (toL (arcsOf g)) (2 * i + 1) = (ar g.Arcs i).From := by unfold toL; rw [flat2_odd _ _ _ _ (by omega) q2 (by omega), show (2 * i + 1) / 2 = i by omega, ea]
      have c1 : gi (costL (arcsOf g)) (2 * i) = (ar g.Arcs i).Cost := by unfold costL; rw [flat2_even _ _ _ _ (by omega) r2 (by omega), show 2 * i / 2 = i by omega, ea]
      have c2 : gi (costL (arcsOf g)) (2 * i + 1) = - (ar g.Arcs i).Cost := by unfold costL; rw [flat2_odd _ _ _ _ (by omega) q2 (by omega), show (2 * i + 1) / 2 = i by omega, ea]
      have x1 : xr (2 * i) = 2 * i + 1 := by unfold xr; rw [if_pos (by omega)]
      have x2 : xr (2 * i + 1) = 2 * i := by unfold xr; rw [if_neg (by omega)]; omega
      have cp := c.d.cap (2 * i) (by omega) r2
      rw [x1, show 2 * i / 2 = i by omega, ea] at cp
      have p1 := pr (2 * i) (by omega) (by omega)
      have p2 := pr (2 * i + 1) (by omega) (by omega)
      rw [x1, t1, t2, c1] at p1
      rw [x2, t1, t2, c2] at p2
      simp only
      rw [flowX_gi _ _ i0 i1]
      unfold rc
      constructor
      · intro hlt
        have := p1 (by omega)
        omega
      · intro hlt
        have := p2 hlt
        omega

/-- Solve in short. -/
theorem solve_ok {g : Graph} (V : Valid g) {Y : List Int} (F : Feas g Y) : ∃ f, flow_Solve_m g = some (f, 0) ∧ Opt g f := by
  obtain ⟨⟨f, e⟩, h, hy⟩ := solve_total g V
  rcases hy with ⟨rfl, o⟩ | ⟨_, S, hS⟩
  · exact ⟨f, h, o⟩
  · exact absurd F (fun F => cut_no V hS F)
end Go.Proofs.Ytedocibniankjaa

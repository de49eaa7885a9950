/- FlowScale, the plain law. -/
import Derived.Test.YtedocibniankjaaQb
import Derived.Test.YtedocibniankjaaWFlowScale
namespace Go.Proofs.Ytedocibniankjaa
open Go.Dc

def wideG (g : Graph) (k : Int) : Graph := Graph.mk (g.Supply.map (fun x => x * k)) (g.Arcs.map (fun a => Arc.mk a.From a.To (a.Cap * k) a.Cost))
def dearG (g : Graph) (k : Int) : Graph := Graph.mk g.Supply (g.Arcs.map (fun a => Arc.mk a.From a.To a.Cap (a.Cost * k)))

theorem mul_rng {x k a b : Int} (k0 : 2 ≤ k) (k1 : k ≤ 1001) (ha : -a ≤ x) (hb : x ≤ b) (a0 : 0 ≤ a) (b0 : 0 ≤ b) : -(a * 1001) ≤ x * k ∧ x * k ≤ b * 1001 := by
  have h1 : x * k ≤ b * k := Int.mul_le_mul_of_nonneg_right hb (by omega)
  have h2 : b * k ≤ b * 1001 := Int.mul_le_mul_of_nonneg_left k1 b0
  have h3 : -a * k ≤ x * k := Int.mul_le_mul_of_nonneg_right ha (by omega)
  have h4 : a * k ≤ a * 1001 := Int.mul_le_mul_of_nonneg_left k1 a0
  have h5 : -a * k = -(a * k) := Int.neg_mul _ _
  omega

theorem wide_valid {g : Graph} (G : GoodG g) {k : Int} (k0 : 2 ≤ k) (k1 : k ≤ 1001) : Valid (wideG g k) := by
  have V := G.valid
  refine ⟨by simp [wideG]; exact V.n1, by simp [wideG]; exact V.n2, by simp [wideG]; exact V.m, ?_, ?_, by simp only [wideG]; rw [sum_map_mul, V.sum]; simp⟩
  · intro x hx
    simp only [wideG, List.mem_map] at hx
    obtain ⟨y, hy, rfl⟩ := hx
    obtain ⟨j, hj, e⟩ := mem_gi hy
    have := G.sup j (by omega) (by omega)
    rw [e] at this
    have := mul_rng k0 k1 this.1 this.2 (by omega) (by omega)
    omega
  · intro a ha
    simp only [wideG, List.mem_map] at ha
    obtain ⟨b, hb, rfl⟩ := ha
    obtain ⟨v1, v2, v3, v4, v5, v6, v7, v8, v9⟩ := G.arc b hb
    simp only [wideG, List.length_map]
    have := mul_rng k0 k1 (a := 0) (by omega) v7 (by omega) (by omega)
    exact ⟨v1, v2, v3, v4, v5, by omega, by omega, by omega, by omega⟩
theorem dear_valid {g : Graph} (G : GoodG g) {k : Int} (k0 : 2 ≤ k) (k1 : k ≤ 1001) : Valid (dearG g k) := by
  have V := G.valid
  refine ⟨V.n1, V.n2, by simp [dearG]; exact V.m, V.sup, ?_, V.sum⟩
  intro a ha
  simp only [dearG, List.mem_map] at ha
  obtain ⟨b, hb, rfl⟩ := ha
  obtain ⟨v1, v2, v3, v4, v5, v6, v7, v8, v9⟩ := G.arc b hb
  have := mul_rng k0 k1 v8 v9 (by omega) (by omega)
  exact ⟨v1, v2, v3, v4, v5, v6, by simp only; omega, by simp only; omega, by simp only; omega⟩

theorem dear_feas (g : Graph) (k : Int) (X : List Int) : Feas (dearG g k) X ↔ Feas g X := by
  have hn : ∀ v, netf (dearG g k) X v = netf g X v := fun v => by
    unfold netf dearG
    simp only [List.length_map]
    exact sumTo_congr (fun i i0 i1 => by rw [ar_map _ _ i0 i1])
  constructor
  · rintro ⟨h1, h2, h3⟩
    simp only [dearG, List.length_map] at h1 h2
    exact ⟨h1, fun i i0 i1 => by have := h2 i i0 i1; rw [ar_map _ _ i0 i1] at this; exact this, fun v v0 v1 => by rw [← hn]; exact h3 v v0 v1⟩
  · rintro ⟨h1, h2, h3⟩
    refine ⟨by simp only [dearG, List.length_map]; exact h1, fun i i0 i1 => ?_, fun v v0 v1 => by rw [hn]; exact h3 v v0 v1⟩
    simp only [dearG, List.length_map] at i1 ⊢
    rw [ar_map _ _ i0 i1]; exact h2 i i0 i1
theorem dear_cost (g : Graph) (k : Int) (X : List Int) : costS (dearG g k) X = costS g X * k := by
  unfold costS dearG
  simp only [List.length_map]
  rw [Int.mul_comm, ← sumTo_mul]
  exact sumTo_congr (fun i i0 i1 => by rw [ar_map _ _ i0 i1]; simp only; rw [← Int.mul_assoc, Int.mul_comm])

theorem wide_opt {g : Graph} {k : Int} (k0 : 2 ≤ k) {f : Flow} (o : Opt g f) : Opt (wideG g k) (Flow.mk (f.X.map (fun x => x * k)) f.Price (f.Cost * k)) := by
  have hl := o.feas.len
  have gx : ∀ i : Int, 0 ≤ i → i < g.Arcs.length → gi (f.X.map (fun x => x * k)) i = gi f.X i * k := fun i i0 i1 => gi_map _ _ i0 (by omega)
  have ga : ∀ i : Int, 0 ≤ i → i < g.Arcs.length → ar (wideG g k).Arcs i = Arc.mk (ar g.Arcs i).From (ar g.Arcs i).To ((ar g.Arcs i).Cap * k) (ar g.Arcs i).Cost := fun i i0 i1 => by
    simp only [wideG]; exact ar_map _ _ i0 i1
  have la : (wideG g k).Arcs.length = g.Arcs.length := by simp [wideG]
  have ls : (wideG g k).Supply.length = g.Supply.length := by simp [wideG]
  have hr : ∀ i : Int, 0 ≤ i → i < g.Arcs.length → rc (wideG g k) f.Price i = rc g f.Price i := fun i i0 i1 => by unfold rc; rw [ga i i0 i1]
  refine ⟨⟨by simp only [List.length_map]; rw [la]; exact hl, ?_, ?_⟩, ?_, by rw [ls]; exact o.lp, by rw [ls]; exact o.pb, ?_⟩
  · intro i i0 i1
    rw [la] at i1
    obtain ⟨a, b⟩ := o.feas.rng i i0 i1
    rw [gx i i0 i1, ga i i0 i1]
    exact ⟨Int.mul_nonneg a (by omega), Int.mul_le_mul_of_nonneg_right b (by omega)⟩
  · intro v v0 v1
    rw [ls] at v1
    have e : netf (wideG g k) (f.X.map (fun x => x * k)) v = netf g f.X v * k := by
      unfold netf
      rw [la, Int.mul_comm, ← sumTo_mul]
      refine sumTo_congr (fun i i0 i1 => ?_)
      rw [gx i i0 i1, ga i i0 i1]
      simp only
      rw [Int.mul_comm (gi f.X i) k, Int.mul_assoc]
    rw [e, o.feas.con v v0 v1]
    simp only [wideG]
    rw [gi_map _ _ v0 v1]
  · simp only
    rw [o.cost]
    unfold costS
    rw [la, Int.mul_comm, ← sumTo_mul]
    refine sumTo_congr (fun i i0 i1 => ?_)
    rw [gx i i0 i1, ga i i0 i1]
    simp only
    rw [Int.mul_comm (gi f.X i) k, Int.mul_assoc]
  · intro i i0 i1
    rw [la] at i1
    obtain ⟨r1, r2⟩ := o.red i i0 i1
    simp only
    rw [gx i i0 i1, ga i i0 i1, hr i i0 i1]
    constructor
    · intro h
      exact r1 (Int.lt_of_mul_lt_mul_right h (by omega))
    · intro h
      exact r2 (Int.pos_of_mul_pos_left h (by omega))

theorem wide_cut {g : Graph} {k : Int} (k0 : 2 ≤ k) {S : Int → Bool} (h : 0 < cutv g S) : 0 < cutv (wideG g k) S := by
  have e : cutv (wideG g k) S = k * cutv g S := by
    unfold cutv
    have la : (wideG g k).Arcs.length = g.Arcs.length := by simp [wideG]
    have ls : (wideG g k).Supply.length = g.Supply.length := by simp [wideG]
    rw [la, ls, Int.mul_sub, ← sumTo_mul, ← sumTo_mul]
    congr 1
    · refine sumTo_congr (fun v v0 v1 => ?_)
      simp only [wideG]
      rw [gi_map _ _ v0 v1]
      split <;> simp [Int.mul_comm]
    · refine sumTo_congr (fun i i0 i1 => ?_)
      have ga := ar_map (fun a => Arc.mk a.From a.To (a.Cap * k) a.Cost) _ i0 i1
      simp only [wideG, ga]
      split <;> simp [Int.mul_comm]
  rw [e]
  exact Int.mul_pos (by omega) h

theorem flowScale_plain (l : List Int) (by_ : Int) (hl : Wf.wf l) (_ : -9223372036854775808 ≤ by_ ∧ by_ ≤ 9223372036854775807) : law27_FlowScale_m l by_ = some true := by
  refine wp_true ?_
  unfold law27_FlowScale_m
  refine wp_bind _ (graph_wp l (wf_len hl)) ?_
  intro g G
  have n2 := G.n2
  have m := G.m
  have V := G.valid
  refine wp_bind _ (pick_wp by_ 1000 (by omega) (by omega)) ?_
  rintro q ⟨q0, q1⟩
  refine wp_i64 (by omega) ?_
  have k0 : 2 ≤ 2 + q := by omega
  have k1 : 2 + q ≤ 1001 := by omega
  refine wp_iter (fun (t : List Int × Nat) => t.2 ≤ g.Supply.length ∧ t.1 = (g.Supply.take t.2).map (fun x => x * (2 + q))) (fun t => 10 - t.2) _ ?_ FUEL _ ⟨Nat.zero_le _, by simp⟩ (fuel_of (by simp only; omega))
  rintro c ⟨s, t⟩ ⟨ht, e⟩ hc
  simp only at ht e hc
  subst e
  simp only [law27_FlowScale_b1]
  refine wp_ite (fun h => ?_) (fun h => ?_)
  · simp only [decide_eq_true_eq] at h
    have hlt : t < g.Supply.length := by omega
    have sb := G.sup t (by omega) h
    have ge : gi g.Supply t = g.Supply[t] := by unfold gi; simp [hlt]
    rw [ge] at sb
    have mb := mul_rng k0 k1 sb.1 sb.2 (by omega) (by omega)
    refine wp_idx (x := g.Supply[t]) (by omega) (by simp [hlt]) (wp_i64 (by omega) (wp_chk (by simp; omega) (hc _ ⟨by simp only; omega, ?_⟩ (by simp only; omega))))
    simp only
    rw [List.take_succ_eq_append_getElem hlt, List.map_append]; rfl
  · simp only [decide_eq_false_iff_not] at h
    obtain rfl : t = g.Supply.length := by omega
    rw [List.take_length]
    simp only [law27_FlowScale_k1]
    refine wp_iter (fun (t : List Arc × List Arc × Nat) => t.2.2 ≤ g.Arcs.length ∧ t.1 = (g.Arcs.take t.2.2).map (fun a => Arc.mk a.From a.To (a.Cap * (2 + q)) a.Cost) ∧ t.2.1 = (g.Arcs.take t.2.2).map (fun a => Arc.mk a.From a.To a.Cap (a.Cost * (2 + q))))
      (fun t => 10 - t.2.2) _ ?_ FUEL _ ⟨Nat.zero_le _, by simp, by simp⟩ (fuel_of (by simp only; omega))
    rintro c2 ⟨aa, bb, t⟩ ⟨ht, e1, e2⟩ hc2
    simp only at ht e1 e2 hc2
    subst e1 e2
    simp only [law27_FlowScale_b2]
    refine wp_ite (fun h => ?_) (fun h => ?_)
    · simp only [decide_eq_true_eq] at h
      have hlt : t < g.Arcs.length := by omega
      obtain ⟨v1, v2, v3, v4, v5, v6, v7, v8, v9⟩ := G.arc _ (List.getElem_mem hlt)
      have mb1 := mul_rng k0 k1 (a := 0) (by omega) v7 (by omega) (by omega)
      have mb2 := mul_rng k0 k1 v8 v9 (by omega) (by omega)
      refine wp_idx (x := g.Arcs[t]) (by omega) (by simp [hlt]) (wp_i64 (by omega) (wp_chk (by simp; omega) (wp_i64 (by omega) (wp_chk (by simp; omega) (hc2 _ ⟨by simp only; omega, ?_, ?_⟩ (by simp only; omega))))))
      · simp only
        rw [List.take_succ_eq_append_getElem hlt, List.map_append]; rfl
      · simp only
        rw [List.take_succ_eq_append_getElem hlt, List.map_append]; rfl
    · simp only [decide_eq_false_iff_not] at h
      obtain rfl : t = g.Arcs.length := by omega
      rw [List.take_length]
      simp only [law27_FlowScale_k2]
      have WV := wide_valid G k0 k1
      have DV := dear_valid G k0 k1
      refine wp_bind _ (least_wp g G) ?_
      rintro ⟨c, ok⟩ ⟨h1, h2⟩
      simp only at h1 h2
      cases ok with
      | false =>
        obtain ⟨_, S, hS⟩ := solve_none V (h2 rfl)
        have hw := solve_none WV (fun Y F => cut_no WV (wide_cut k0 hS) F)
        have hd := solve_none DV (fun Y F => h2 rfl Y ((dear_feas g _ Y).1 F))
        refine wp_eq hw.1 (wp_eq hd.1 (wp_ite (fun _ => ?_) (fun h => by cases h)))
        exact wp_eq awake27 (wp_some (by simp))
      | true =>
        obtain ⟨⟨X, F, hX⟩, hmin⟩ := h1 rfl
        obtain ⟨f0, hf0, o0⟩ := solve_ok V F
        have c0 : f0.Cost = c := by
          have a := o0.least V F
          have b := hmin _ o0.feas
          have d := o0.cost
          omega
        have w0 := wide_opt k0 o0
        obtain ⟨fw, hfw, ow⟩ := solve_ok WV w0.feas
        have cw : fw.Cost = c * (2 + q) := by
          have a := ow.least WV w0.feas
          have b := w0.least WV ow.feas
          have d := ow.cost
          have e := w0.cost
          simp only at a b e
          rw [c0] at b e
          omega
        obtain ⟨fd, hfd, od⟩ := solve_ok DV ((dear_feas g _ X).2 F)
        have cd : fd.Cost = c * (2 + q) := by
          have a := od.least DV ((dear_feas g _ X).2 F)
          have b := hmin _ ((dear_feas g _ _).1 od.feas)
          have d := od.cost
          rw [dear_cost] at a d
          rw [hX] at a
          have b' : c * (2 + q) ≤ costS g fd.X * (2 + q) := Int.mul_le_mul_of_nonneg_right b (by omega)
          omega
        have cb : -1000 ≤ c ∧ c ≤ 1000 := by
          rw [← hX]
          unfold costS
          have key : ∀ n : Nat, n ≤ g.Arcs.length → -(14 * (n : Int)) ≤ sumTo (fun i => gi X i * (ar g.Arcs i).Cost) n ∧ sumTo (fun i => gi X i * (ar g.Arcs i).Cost) n ≤ 14 * (n : Int) := by
            intro n
            induction n with
            | zero => intro _; simp [sumTo]
            | succ n ih =>
              intro h
              have a := ih (by omega)
              obtain ⟨x0, x1⟩ := F.rng n (by omega) (by omega)
              obtain ⟨_, _, _, _, _, v6, v7, v8, v9⟩ := G.arc _ (ar_mem (E := g.Arcs) (i := (n : Int)) (by omega) (by omega))
              have b1 : gi X n * (ar g.Arcs n).Cost ≤ gi X n * 7 := Int.mul_le_mul_of_nonneg_left v9 x0
              have b2 : gi X n * (-7) ≤ gi X n * (ar g.Arcs n).Cost := Int.mul_le_mul_of_nonneg_left (by omega) x0
              rw [sumTo]
              omega
          have := key g.Arcs.length (Nat.le_refl _)
          omega
        have mb := mul_rng k0 k1 cb.1 cb.2 (by omega) (by omega)
        refine wp_eq hfw (wp_eq hfd (wp_ite (fun h => by cases h) (fun _ => ?_)))
        refine wp_eq awake27 ?_
        have ib : i64b (c * (2 + q)) = true := i64b_of (by omega) (by omega)
        simp only [cw, cd, ib, Bool.or_true]
        exact wp_chk rfl (wp_chk rfl (wp_some (by simp)))
end Go.Proofs.Ytedocibniankjaa

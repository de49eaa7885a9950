/- Plain laws of chapter 27: Solve returns a flow of least cost with its proof, or there is a set that no flow satisfies. -/
import Derived.Test.YtedocibniankjaaQ5
namespace Go.Proofs.Ytedocibniankjaa
open Go.Dc

/-- What leaves a node by the arcs of a network. -/
def netf (g : Graph) (X : List Int) (v : Int) : Int :=
  sumTo (fun i => gi X i * ((if (ar g.Arcs i).From = v then 1 else 0) - (if (ar g.Arcs i).To = v then 1 else 0))) g.Arcs.length
structure Feas (g : Graph) (X : List Int) : Prop where
  len : X.length = g.Arcs.length
  rng : ∀ i : Int, 0 ≤ i → i < g.Arcs.length → 0 ≤ gi X i ∧ gi X i ≤ (ar g.Arcs i).Cap
  con : ∀ v : Int, 0 ≤ v → v < g.Supply.length → netf g X v = gi g.Supply v
def costS (g : Graph) (X : List Int) : Int := sumTo (fun i => gi X i * (ar g.Arcs i).Cost) g.Arcs.length
def rc (g : Graph) (P : List Int) (i : Int) : Int := (ar g.Arcs i).Cost + gi P (ar g.Arcs i).From - gi P (ar g.Arcs i).To
/-- A feasible flow with a proof that it is cheapest. -/
structure Opt (g : Graph) (f : Flow) : Prop where
  feas : Feas g f.X
  cost : f.Cost = costS g f.X
  lp : f.Price.length = g.Supply.length
  pb : ∀ v : Int, 0 ≤ v → v < g.Supply.length → -1099511627776 ≤ gi f.Price v ∧ gi f.Price v ≤ 1099511627776
  red : ∀ i : Int, 0 ≤ i → i < g.Arcs.length → (gi f.X i < (ar g.Arcs i).Cap → 0 ≤ rc g f.Price i) ∧ (0 < gi f.X i → rc g f.Price i ≤ 0)
def cutv (g : Graph) (S : Int → Bool) : Int :=
  sumTo (fun v => if S v then gi g.Supply v else 0) g.Supply.length - sumTo (fun i => if S (ar g.Arcs i).From && !S (ar g.Arcs i).To then (ar g.Arcs i).Cap else 0) g.Arcs.length

theorem mul_ite (a : Int) (c : Prop) [Decidable c] : a * (if c then 1 else 0) = if c then a else 0 := by split <;> simp

/-- A sum over nodes of what leaves them is a sum over arcs. -/
theorem sum_net (g : Graph) (V : Valid g) (X : List Int) (p : Int → Int) : sumTo (fun v => p v * netf g X v) g.Supply.length = sumTo (fun i => gi X i * (p (ar g.Arcs i).From - p (ar g.Arcs i).To)) g.Arcs.length := by
  unfold netf
  rw [sumTo_congr (g := fun v => sumTo (fun i => p v * (gi X i * ((if (ar g.Arcs i).From = v then 1 else 0) - (if (ar g.Arcs i).To = v then 1 else 0)))) g.Arcs.length) (fun v _ _ => (sumTo_mul _ _ _).symm)]
  rw [sumTo_swap (fun v i => p v * (gi X i * ((if (ar g.Arcs i).From = v then 1 else 0) - (if (ar g.Arcs i).To = v then 1 else 0))))]
  refine sumTo_congr (fun i i0 i1 => ?_)
  obtain ⟨v1, v2, v3, v4, v5, _⟩ := V.arc _ (ar_mem i0 i1)
  rw [sumTo_congr (g := fun v => (if v = (ar g.Arcs i).From then gi X i * p v else 0) - (if v = (ar g.Arcs i).To then gi X i * p v else 0)) (fun v _ _ => ?_)]
  · rw [sumTo_sub, sumTo_ind _ (fun v => gi X i * p v) _ v1 v2, sumTo_ind _ (fun v => gi X i * p v) _ v3 v4, Int.mul_sub]
  · by_cases c1 : v = (ar g.Arcs i).From
    · have c2 : v ≠ (ar g.Arcs i).To := fun e => v5 (c1.symm.trans e)
      rw [if_pos c1.symm, if_neg (Ne.symm c2), if_pos c1, if_neg c2]; simp [Int.mul_comm]
    · by_cases c2 : v = (ar g.Arcs i).To
      · rw [if_neg (Ne.symm c1), if_pos c2.symm, if_neg c1, if_pos c2]; simp [Int.mul_comm, Int.mul_neg]
      · rw [if_neg (Ne.symm c1), if_neg (Ne.symm c2), if_neg c1, if_neg c2]; simp

/-- No feasible flow is cheaper. -/
theorem Opt.least {g : Graph} (V : Valid g) {f : Flow} (o : Opt g f) {Y : List Int} (F : Feas g Y) : f.Cost ≤ costS g Y := by
  rw [o.cost]
  have e1 := sum_net g V f.X (gi f.Price)
  have e2 := sum_net g V Y (gi f.Price)
  have e3 : sumTo (fun v => gi f.Price v * netf g f.X v) g.Supply.length = sumTo (fun v => gi f.Price v * netf g Y v) g.Supply.length :=
    sumTo_congr (fun v v0 v1 => by rw [o.feas.con v v0 v1, F.con v v0 v1])
  have key : sumTo (fun i => gi f.X i * rc g f.Price i) g.Arcs.length ≤ sumTo (fun i => gi Y i * rc g f.Price i) g.Arcs.length := by
    refine sumTo_le (fun i i0 i1 => ?_)
    obtain ⟨a, b⟩ := o.feas.rng i i0 i1
    obtain ⟨a', b'⟩ := F.rng i i0 i1
    obtain ⟨r1, r2⟩ := o.red i i0 i1
    rcases Int.lt_trichotomy (rc g f.Price i) 0 with h | h | h
    · have : gi f.X i = (ar g.Arcs i).Cap := by
        refine Classical.byContradiction fun hne => ?_
        have := r1 (by omega)
        omega
      exact Int.mul_le_mul_of_nonpos_right (by omega) (by omega)
    · rw [h]; simp
    · have : gi f.X i = 0 := by
        refine Classical.byContradiction fun hne => ?_
        have := r2 (by omega)
        omega
      exact Int.mul_le_mul_of_nonneg_right (by omega) (by omega)
  have ex : ∀ Z : List Int, sumTo (fun i => gi Z i * rc g f.Price i) g.Arcs.length = costS g Z + sumTo (fun i => gi Z i * (gi f.Price (ar g.Arcs i).From - gi f.Price (ar g.Arcs i).To)) g.Arcs.length := by
    intro Z
    unfold costS
    rw [← sumTo_add]
    refine sumTo_congr (fun i _ _ => ?_)
    unfold rc
    rw [← Int.mul_add]
    congr 1
    omega
  rw [ex, ex] at key
  omega

/-- A set with a positive excess shows that there is no feasible flow. -/
theorem cut_no {g : Graph} (V : Valid g) {S : Int → Bool} (h : 0 < cutv g S) {Y : List Int} (F : Feas g Y) : False := by
  have e := sum_net g V Y (fun v => if S v then 1 else 0)
  have e1 : sumTo (fun v => (if S v = true then 1 else 0) * netf g Y v) g.Supply.length = sumTo (fun v => if S v then gi g.Supply v else 0) g.Supply.length :=
    sumTo_congr (fun v v0 v1 => by rw [F.con v v0 v1]; split <;> simp)
  have e2 : sumTo (fun i => gi Y i * ((if S (ar g.Arcs i).From = true then 1 else 0) - (if S (ar g.Arcs i).To = true then 1 else 0))) g.Arcs.length ≤ sumTo (fun i => if S (ar g.Arcs i).From && !S (ar g.Arcs i).To then (ar g.Arcs i).Cap else 0) g.Arcs.length := by
    refine sumTo_le (fun i i0 i1 => ?_)
    obtain ⟨a, b⟩ := F.rng i i0 i1
    cases S (ar g.Arcs i).From <;> cases S (ar g.Arcs i).To <;> simp <;> omega
  unfold cutv at h
  omega

/-- The end of solving. -/
structure Solved (g : Graph) (fr : List (List Int)) (left exc price : List Int) : Prop where
  c : ∃ C, Cx g.Supply.length g.Arcs.length (arcsOf g) fr (g.Supply ++ [0]) left exc price 1 C
  z : ∀ v : Int, 0 ≤ v → v ≤ g.Supply.length → gi exc v = 0
  f : FR g.Supply.length (arcsOf g) fr

theorem run_wp (g : Graph) (V : Valid g) : ∃ fr left exc price, flow_newResidual_m g = some (Flow_residual.mk g.Supply.length g.Arcs.length (toL (arcsOf g)) (leftL (arcsOf g)) (costL (arcsOf g)) fr (g.Supply ++ [0]) (List.replicate (g.Supply.length + 1) 0)) ∧
    flow_residual_solve_m (Flow_residual.mk g.Supply.length g.Arcs.length (toL (arcsOf g)) (leftL (arcsOf g)) (costL (arcsOf g)) fr (g.Supply ++ [0]) (List.replicate (g.Supply.length + 1) 0)) = some (left, exc, price) ∧ Solved g fr left exc price := by
  obtain ⟨r, h1, fr, rfl, F⟩ := newres_wp g V
  have s := st_of g V F
  obtain ⟨⟨left, exc, price⟩, h2, C, c, z⟩ := solve_wp s (fun v v0 v1 => by have := F.fl v v0 v1; have := s.lenb; omega) (pi_of g V s)
  exact ⟨fr, left, exc, price, h1, h2, ⟨C, c⟩, z, F⟩

/-- Some step of a growing row of sets adds nothing. -/
theorem stands (n : Nat) (T : Nat → Int → Bool) (mono : ∀ k v, T k v = true → T (k + 1) v = true) : ∃ k, k ≤ n ∧ ∀ v : Int, 0 ≤ v → v < n → T (k + 1) v = true → T k v = true := by
  refine Classical.byContradiction fun hno => ?_
  have grow : ∀ k, k ≤ n + 1 → (k : Int) ≤ sumTo (fun v => if T k v then 1 else 0) n := by
    intro k
    induction k with
    | zero => intro _; exact sumTo_nonneg (fun i _ _ => by split <;> omega)
    | succ k ih =>
      intro hk
      have h1 := ih (by omega)
      obtain ⟨v, v0, v1, hv, hv'⟩ : ∃ v : Int, 0 ≤ v ∧ v < n ∧ T (k + 1) v = true ∧ ¬ T k v = true := by
        refine Classical.byContradiction fun h => hno ⟨k, by omega, fun v v0 v1 hv => Classical.byContradiction fun h' => h ⟨v, v0, v1, hv, h'⟩⟩
      have h2 := sumTo_ge (f := fun v => (if T (k + 1) v then 1 else 0) - (if T k v then (1 : Int) else 0)) (n := n) (fun i _ _ => by
        cases e : T k i with
        | true => rw [mono k i e]; simp
        | false => simp; split <;> omega) v v0 v1
      rw [sumTo_sub] at h2
      simp only [hv, if_true, hv'] at h2
      have hc : ((k + 1 : Nat) : Int) = k + 1 := by omega
      rw [hc]
      simp only [Bool.false_eq_true, if_false] at h2
      omega
  have h1 := grow (n + 1) (Nat.le_refl _)
  have h2 := sumTo_le (f := fun v => if T (n + 1) v then 1 else 0) (g := fun _ => 1) (n := n) (fun i _ _ => by split <;> omega)
  rw [sumTo_const] at h2
  omega

theorem Solved.arc {g : Graph} {fr : List (List Int)} {left exc price : List Int} (_ : Solved g fr left exc price) {i : Int} (i0 : 0 ≤ i) (i1 : i < g.Arcs.length) : ar (arcsOf g) i = ar g.Arcs i := by
  unfold arcsOf; exact ar_app1 _ _ i0 i1

/-- A set between the nodes that are left with an excess and those that lack something. -/
theorem Solved.gap {g : Graph} (V : Valid g) {fr : List (List Int)} {left exc price : List Int} (F : Solved g fr left exc price) : ∃ S : Int → Bool,
    (∀ v : Int, 0 ≤ v → v < g.Supply.length → 0 < gi left (2 * (g.Arcs.length + 2 * v) + 1) → S v = true) ∧
    (∀ v : Int, 0 ≤ v → v < g.Supply.length → 0 < gi left (2 * (g.Arcs.length + 2 * v + 1) + 1) → S v = false) ∧
    (∀ h : Int, 0 ≤ h → h < 2 * (g.Arcs.length : Int) → 0 < gi left h → S (gi (toL (arcsOf g)) (xr h)) = true → S (gi (toL (arcsOf g)) h) = true) ∧ (∀ v : Int, (g.Supply.length : Int) ≤ v → S v = false) := by
  obtain ⟨C, c⟩ := F.c
  have n2 := V.n2
  have len := c.s.len
  let T : Nat → Int → Bool := fun k v => decide (v < g.Supply.length) && decide (gi price v ≤ gi price g.Supply.length - 201326592 + 1048576 * (k : Int))
  obtain ⟨k, hk, hT⟩ := stands g.Supply.length T (fun k v h => by
    simp only [T, Bool.and_eq_true, decide_eq_true_eq] at h ⊢
    exact ⟨h.1, by omega⟩)
  refine ⟨T k, ?_, ?_, ?_, ?_⟩
  · intro v v0 v1 hl
    obtain ⟨a, b, t1, t2, t3⟩ := c.s.a1 v0 v1
    have hx := xr_rng a b
    have ex : xr (2 * (g.Arcs.length + 2 * v)) = 2 * (g.Arcs.length + 2 * v) + 1 := by unfold xr; rw [if_pos (by omega)]
    have o := c.opt _ hx.1 hx.2 (by rw [ex]; omega)
    rw [red_xr _ _ a b] at o
    unfold red at o
    rw [t1, t2, t3] at o
    simp only [T, Bool.and_eq_true, decide_eq_true_eq]
    omega
  · intro v v0 v1 hl
    obtain ⟨a, b, t1, t2, t3⟩ := c.s.a2 v0 v1
    have hx := xr_rng a b
    have ex : xr (2 * (g.Arcs.length + 2 * v + 1)) = 2 * (g.Arcs.length + 2 * v + 1) + 1 := by unfold xr; rw [if_pos (by omega)]
    have o := c.opt _ hx.1 hx.2 (by rw [ex]; omega)
    rw [red_xr _ _ a b] at o
    unfold red at o
    rw [t1, t2, t3] at o
    simp only [T, Bool.and_eq_false_iff, decide_eq_false_iff_not]
    right
    omega
  · intro h h0 h1 hl hs
    obtain ⟨t1, a1, a2, a3, a4, a5, a6⟩ := c.s.nt h0 h1
    have o := c.opt h h0 t1 (by omega)
    unfold red at o
    refine hT _ a1 a2 ?_
    simp only [T, Bool.and_eq_true, decide_eq_true_eq] at hs ⊢
    omega
  · intro v hv
    simp only [T, Bool.and_eq_false_iff, decide_eq_false_iff_not]
    left; omega

/-- What the artificial arcs carry away from a set is its excess. -/
theorem Solved.cutpos {g : Graph} (V : Valid g) {fr : List (List Int)} {left exc price : List Int} (F : Solved g fr left exc price) {S : Int → Bool}
    (s1 : ∀ v : Int, 0 ≤ v → v < g.Supply.length → 0 < gi left (2 * (g.Arcs.length + 2 * v) + 1) → S v = true)
    (s2 : ∀ v : Int, 0 ≤ v → v < g.Supply.length → 0 < gi left (2 * (g.Arcs.length + 2 * v + 1) + 1) → S v = false)
    (s3 : ∀ h : Int, 0 ≤ h → h < 2 * (g.Arcs.length : Int) → 0 < gi left h → S (gi (toL (arcsOf g)) (xr h)) = true → S (gi (toL (arcsOf g)) h) = true)
    (s4 : S g.Supply.length = false) (hnf : ∃ i : Int, (g.Arcs.length : Int) ≤ i ∧ i < (arcsOf g).length ∧ 0 < gi left (2 * i + 1)) : 0 < cutv g S := by
  obtain ⟨C, c⟩ := F.c
  have n1 := V.n1
  have n2 := V.n2
  have len := c.s.len
  have A0 := c.s.A0
  have split : ∀ (f : Int → Int), sumTo f (arcsOf g).length = sumTo f g.Arcs.length + sumTo (fun v => f (g.Arcs.length + 2 * v) + f (g.Arcs.length + 2 * v + 1)) g.Supply.length := by
    intro f
    have : ∀ k : Nat, sumTo f (g.Arcs.length + 2 * k) = sumTo f g.Arcs.length + sumTo (fun v => f (g.Arcs.length + 2 * v) + f (g.Arcs.length + 2 * v + 1)) k := by
      intro k
      induction k with
      | zero => simp [sumTo]
      | succ k ih =>
        rw [show g.Arcs.length + 2 * (k + 1) = (g.Arcs.length + 2 * k) + 1 + 1 by omega, sumTo, sumTo, ih, sumTo]
        have e1 : ((g.Arcs.length + 2 * k : Nat) : Int) = g.Arcs.length + 2 * (k : Int) := by omega
        have e2 : ((g.Arcs.length + 2 * k + 1 : Nat) : Int) = g.Arcs.length + 2 * (k : Int) + 1 := by omega
        rw [e1, e2]; omega
    rw [show (arcsOf g).length = g.Arcs.length + 2 * g.Supply.length by omega, this]
  -- conservation at each node
  have con : ∀ v : Int, 0 ≤ v → v ≤ g.Supply.length → outf (arcsOf g) left v = gi (g.Supply ++ [0]) v := fun v v0 v1 => by
    have := c.d.con v v0 v1
    rw [F.z v v0 v1] at this
    omega
  -- the hub
  have hub : sumTo (fun v => gi left (2 * (g.Arcs.length + 2 * v + 1) + 1) - gi left (2 * (g.Arcs.length + 2 * v) + 1)) g.Supply.length = 0 := by
    have h := con g.Supply.length (by omega) (by omega)
    rw [gi_app2 _ _ (by omega), show (g.Supply.length : Int) - g.Supply.length = 0 by omega] at h
    unfold outf at h
    rw [split] at h
    have z : sumTo (fun i => gi left (2 * i + 1) * ((if (ar (arcsOf g) i).From = (g.Supply.length : Int) then 1 else 0) - (if (ar (arcsOf g) i).To = (g.Supply.length : Int) then 1 else 0))) g.Arcs.length = 0 := by
      refine sumTo_zero (fun i i0 i1 => ?_)
      obtain ⟨b1, b2, _⟩ := c.s.net i i0 i1
      rw [if_neg (by omega), if_neg (by omega)]; simp
    rw [z] at h
    have h' : gi [0] 0 = 0 := rfl
    rw [h'] at h
    rw [← sumTo_congr (fun v v0 v1 => ?_)] at h
    · rw [Int.zero_add] at h; exact h
    · rw [c.s.art1 v v0 v1, c.s.art2 v v0 v1]
      simp only
      rw [if_neg (by omega)]
      simp
      omega
  have nonneg : ∀ i : Int, 0 ≤ i → i < (arcsOf g).length → 0 ≤ gi left (2 * i + 1) := fun i i0 i1 => c.d.l0 _ (by omega) (by omega)
  -- something is carried away
  have ex : 0 < sumTo (fun v => gi left (2 * (g.Arcs.length + 2 * v) + 1)) g.Supply.length := by
    have hn1 := sumTo_nonneg (f := fun v => gi left (2 * (g.Arcs.length + 2 * v) + 1)) (n := g.Supply.length) (fun v v0 v1 => nonneg _ (by omega) (by omega))
    rw [sumTo_sub] at hub
    obtain ⟨i, i0, i1, hi⟩ := hnf
    by_cases e : (i - g.Arcs.length) % 2 = 0
    · have := sumTo_ge (f := fun v => gi left (2 * (g.Arcs.length + 2 * v) + 1)) (n := g.Supply.length) (fun v v0 v1 => nonneg _ (by omega) (by omega)) ((i - g.Arcs.length) / 2) (by omega) (by omega)
      rw [show 2 * ((g.Arcs.length : Int) + 2 * ((i - g.Arcs.length) / 2)) + 1 = 2 * i + 1 by omega] at this
      omega
    · have := sumTo_ge (f := fun v => gi left (2 * (g.Arcs.length + 2 * v + 1) + 1)) (n := g.Supply.length) (fun v v0 v1 => nonneg _ (by omega) (by omega)) ((i - g.Arcs.length) / 2) (by omega) (by omega)
      rw [show 2 * ((g.Arcs.length : Int) + 2 * ((i - g.Arcs.length) / 2) + 1) + 1 = 2 * i + 1 by omega] at this
      omega
  -- the sum over the set
  have sw : sumTo (fun v => if S v then gi g.Supply v else 0) g.Supply.length = sumTo (fun i => gi left (2 * i + 1) * ((if S (ar (arcsOf g) i).From then 1 else 0) - (if S (ar (arcsOf g) i).To then 1 else 0))) (arcsOf g).length := by
    rw [sumTo_congr (g := fun v => sumTo (fun i => (if S v then 1 else 0) * (gi left (2 * i + 1) * ((if (ar (arcsOf g) i).From = v then 1 else 0) - (if (ar (arcsOf g) i).To = v then 1 else 0)))) (arcsOf g).length) (fun v v0 v1 => ?_)]
    · rw [sumTo_swap (fun v i => (if S v then 1 else 0) * (gi left (2 * i + 1) * ((if (ar (arcsOf g) i).From = v then 1 else 0) - (if (ar (arcsOf g) i).To = v then 1 else 0))))]
      refine sumTo_congr (fun i i0 i1 => ?_)
      obtain ⟨v1, v2, v3, v4, v5, _⟩ := c.s.rng i i0 i1
      rw [sumTo_congr (g := fun v => (if v = (ar (arcsOf g) i).From then (if S v then gi left (2 * i + 1) else 0) else 0) - (if v = (ar (arcsOf g) i).To then (if S v then gi left (2 * i + 1) else 0) else 0)) (fun v _ _ => ?_)]
      · rw [sumTo_sub]
        have ind : ∀ a : Int, 0 ≤ a → a ≤ g.Supply.length → sumTo (fun v => if v = a then (if S v then gi left (2 * i + 1) else 0) else 0) g.Supply.length = if S a then gi left (2 * i + 1) else 0 := by
          intro a a0 a1
          by_cases e : a < g.Supply.length
          · rw [sumTo_ind _ (fun v => if S v then gi left (2 * i + 1) else 0) _ a0 e]
          · obtain rfl : a = g.Supply.length := by omega
            rw [s4]
            refine sumTo_zero (fun v v0 v1 => ?_)
            rw [if_neg (by omega)]
        rw [ind _ v1 v2, ind _ v3 v4, Int.mul_sub, mul_ite, mul_ite]
      · by_cases c1 : v = (ar (arcsOf g) i).From
        · have c2 : v ≠ (ar (arcsOf g) i).To := fun e => v5 (c1.symm.trans e)
          rw [if_pos c1.symm, if_neg (Ne.symm c2), if_pos c1, if_neg c2]; split <;> simp
        · by_cases c2 : v = (ar (arcsOf g) i).To
          · rw [if_neg (Ne.symm c1), if_pos c2.symm, if_neg c1, if_pos c2]; split <;> simp
          · rw [if_neg (Ne.symm c1), if_neg (Ne.symm c2), if_neg c1, if_neg c2]; simp
    · rw [sumTo_mul]
      have := con v v0 (by omega)
      rw [gi_app1 _ _ v0 v1] at this
      unfold outf at this
      rw [this]; split <;> simp
  rw [split] at sw
  have p1 : sumTo (fun i => gi left (2 * i + 1) * ((if S (ar (arcsOf g) i).From then 1 else 0) - (if S (ar (arcsOf g) i).To then 1 else 0))) g.Arcs.length = sumTo (fun i => if S (ar g.Arcs i).From && !S (ar g.Arcs i).To then (ar g.Arcs i).Cap else 0) g.Arcs.length := by
    refine sumTo_congr (fun i i0 i1 => ?_)
    have ea := F.arc i0 i1
    have r0 : 0 ≤ 2 * i := by omega
    have r1 : 2 * i < 2 * (g.Arcs.length : Int) := by omega
    have r2 : 2 * i < 2 * ((arcsOf g).length : Int) := by omega
    have q2 : 2 * i + 1 < 2 * ((arcsOf g).length : Int) := by omega
    have t1 : gi (toL (arcsOf g)) (2 * i) = (ar g.Arcs i).To := by unfold toL; rw [flat2_even _ _ _ _ r0 r2 (by omega), show 2 * i / 2 = i by omega, ea]
    have t2 : gi (toL (arcsOf g)) (2 * i + 1) = (ar g.Arcs i).From := by unfold toL; rw [flat2_odd _ _ _ _ (by omega) q2 (by omega), show (2 * i + 1) / 2 = i by omega, ea]
    have x1 : xr (2 * i) = 2 * i + 1 := by unfold xr; rw [if_pos (by omega)]
    have x2 : xr (2 * i + 1) = 2 * i := by unfold xr; rw [if_neg (by omega)]; omega
    have f1 := s3 (2 * i) r0 r1
    have f2 := s3 (2 * i + 1) (by omega) (by omega)
    rw [x1, t1, t2] at f1
    rw [x2, t1, t2] at f2
    have cp := c.d.cap (2 * i) r0 r2
    rw [x1, show 2 * i / 2 = i by omega, ea] at cp
    have l0 := c.d.l0 (2 * i) r0 r2
    have l1 := c.d.l0 (2 * i + 1) (by omega) q2
    rw [ea]
    cases e1 : S (ar g.Arcs i).From <;> cases e2 : S (ar g.Arcs i).To <;> rw [e1, e2] at f1 f2 <;> simp
    · refine Classical.byContradiction fun hne => ?_
      have := f2 (by omega) rfl
      cases this
    · refine Classical.byContradiction fun hne => ?_
      have := f1 (by omega) rfl
      cases this
  have p2 : sumTo (fun v => gi left (2 * (g.Arcs.length + 2 * v) + 1) * ((if S (ar (arcsOf g) (g.Arcs.length + 2 * v)).From then 1 else 0) - (if S (ar (arcsOf g) (g.Arcs.length + 2 * v)).To then 1 else 0)) +
      gi left (2 * (g.Arcs.length + 2 * v + 1) + 1) * ((if S (ar (arcsOf g) (g.Arcs.length + 2 * v + 1)).From then 1 else 0) - (if S (ar (arcsOf g) (g.Arcs.length + 2 * v + 1)).To then 1 else 0))) g.Supply.length =
      sumTo (fun v => gi left (2 * (g.Arcs.length + 2 * v) + 1)) g.Supply.length := by
    refine sumTo_congr (fun v v0 v1 => ?_)
    rw [c.s.art1 v v0 v1, c.s.art2 v v0 v1]
    simp only
    have a := nonneg (g.Arcs.length + 2 * v) (by omega) (by omega)
    have b := nonneg (g.Arcs.length + 2 * v + 1) (by omega) (by omega)
    have f1 := s1 v v0 v1
    have f2 := s2 v v0 v1
    rw [s4]
    cases e : S v <;> rw [e] at f1 f2 <;> simp
    · refine Classical.byContradiction fun hne => ?_
      have := f1 (by omega)
      cases this
    · refine Classical.byContradiction fun hne => ?_
      have := f2 (by omega)
      cases this
  rw [p1, p2] at sw
  unfold cutv
  omega
end Go.Proofs.Ytedocibniankjaa

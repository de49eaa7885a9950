/- Plain laws of chapter 28: Build. -/
import Derived.Test.YtedocibniankjaaQh
import Derived.Test.YtedocibniankjaaQi
namespace Go.Proofs.Ytedocibniankjaa
open Go.Dc

theorem sumTo_ge2 {f : Int → Int} {n : Nat} (h : ∀ i : Int, 0 ≤ i → i < n → 0 ≤ f i) {i j : Int} (i0 : 0 ≤ i) (i1 : i < n) (j0 : 0 ≤ j) (j1 : j < n) (hne : i ≠ j) : f i + f j ≤ sumTo f n := by
  have a := sumTo_upd (f := fun k => if k = i then 0 else f k) (g := f) i (n := n) i0 i1 (fun k _ _ hk => by rw [if_neg hk])
  have b := sumTo_ge (f := fun k => if k = i then 0 else f k) (n := n) (fun k k0 k1 => by
    by_cases e : k = i
    · rw [if_pos e]; exact Int.le_refl _
    · rw [if_neg e]; exact h k k0 k1) j j0 j1
  simp only [if_true] at a
  rw [if_neg (Ne.symm hne)] at b
  omega
theorem sumTo_only {f : Int → Int} {n : Nat} {k : Int} (k0 : 0 ≤ k) (k1 : k < n) (h : ∀ i : Int, 0 ≤ i → i < n → i ≠ k → f i = 0) : sumTo f n = f k := by
  rw [sumTo_congr (g := fun i => if i = k then f i else 0) (fun i i0 i1 => ?_), sumTo_ind k f n k0 k1]
  by_cases e : i = k
  · rw [if_pos e]
  · rw [if_neg e, h i i0 i1 e]

/-- What Build returns. -/
structure Built (ts : List Task) (r : Rules) (next : List Int) (c : Cover) : Prop where
  cov : Cov ts r next c
  best : ∀ next', Circ ts r next' → emp ts r next ts.length - 288001 * jn next ts.length ≤ emp ts r next' ts.length - 288001 * jn next' ts.length

/-- The flow of least cost and the circulation that is read off it. -/
theorem read_off {ts : List Task} {r : Rules} (T : TV ts r) (hn : ts.length ≤ 20) {s : List Int} (hl : s.length = 2 * ts.length + 1) (hs : ∀ v : Int, 0 ≤ v → v ≤ 2 * ts.length → gi s v = supF ts.length v) {f : Flow} (o : Opt (Graph.mk s (arcsB ts r)) f)
    {next : List Int} (nl : next.length = ts.length) (h1 : ∀ a : Int, 0 ≤ a → a < ts.length → gi next a = -1 ∨ ∃ j : Int, 2 * (ts.length : Int) ≤ j ∧ j < (arcsB ts r).length ∧ gi f.X j = 1 ∧ (ar (arcsB ts r) j).From = a ∧ (ar (arcsB ts r) j).To = ts.length + gi next a)
    (h2 : ∀ j : Int, 2 * (ts.length : Int) ≤ j → j < (arcsB ts r).length → gi f.X j = 1 → gi next (ar (arcsB ts r) j).From ≠ -1) :
    Circ ts r next ∧ Pot ts r next (gi f.Price) (fun b => gi f.Price (ts.length + b)) (gi f.Price (2 * ts.length)) ∧ ∀ next', Circ ts r next' → emp ts r next ts.length - 288001 * jn next ts.length ≤ emp ts r next' ts.length - 288001 * jn next' ts.length := by
  have V := buildG_valid T hn hl hs
  have hb := baseA_len ts.length ts.length
  have hA : (arcsB ts r).length = 2 * ts.length + (allP ts r ts.length).length := by unfold arcsB; rw [List.length_append, hb]
  have F := o.feas
  have cap1 : ∀ i : Int, 0 ≤ i → i < (arcsB ts r).length → (ar (arcsB ts r) i).Cap = 1 := by
    intro i i0 i1
    by_cases e : i < 2 * ts.length
    · have h := arcsB_base ts r (a := i / 2) (by omega) (by omega)
      by_cases ei : i % 2 = 0
      · rw [show i = 2 * (i / 2) by omega, h.1]
      · rw [show i = 2 * (i / 2) + 1 by omega, h.2]
    · obtain ⟨a, b, a0, a1, b0, b1, _, h⟩ := arcsB_pair ts r (by omega) i1
      rw [h]; rfl
  have xr : ∀ i : Int, 0 ≤ i → i < (arcsB ts r).length → gi f.X i = 0 ∨ gi f.X i = 1 := fun i i0 i1 => by
    have := F.rng i i0 i1
    simp only at this
    rw [cap1 i i0 i1] at this
    omega
  -- sums at the nodes
  have ends : ∀ i : Int, 0 ≤ i → i < (arcsB ts r).length → ((ar (arcsB ts r) i).From < ts.length ∨ (ar (arcsB ts r) i).From = 2 * ts.length) ∧ (ts.length : Int) ≤ (ar (arcsB ts r) i).To := by
    intro i i0 i1
    by_cases e : i < 2 * ts.length
    · have h := arcsB_base ts r (a := i / 2) (by omega) (by omega)
      by_cases ei : i % 2 = 0
      · rw [show i = 2 * (i / 2) by omega, h.1]; exact ⟨Or.inl (by simp only; omega), by simp only; omega⟩
      · rw [show i = 2 * (i / 2) + 1 by omega, h.2]; exact ⟨Or.inr rfl, by simp only; omega⟩
    · obtain ⟨a, b, a0, a1, b0, b1, _, h⟩ := arcsB_pair ts r (by omega) i1
      rw [h]; unfold pr; simp only; omega
  have outs : ∀ a : Int, 0 ≤ a → a < ts.length → sumTo (fun i => if (ar (arcsB ts r) i).From = a then gi f.X i else 0) (arcsB ts r).length = 1 := by
    intro a a0 a1
    have := F.con a a0 (by simp only; omega)
    simp only at this
    rw [hs a a0 (by omega)] at this
    unfold supF at this
    rw [if_pos a1] at this
    rw [← this]
    unfold netf
    refine sumTo_congr (fun i i0 i1 => ?_)
    have e := (ends i i0 i1).2
    simp only
    rw [if_neg (show ¬ (ar (arcsB ts r) i).To = a by omega)]
    split <;> simp
  have ins : ∀ b : Int, 0 ≤ b → b < ts.length → sumTo (fun i => if (ar (arcsB ts r) i).To = ts.length + b then gi f.X i else 0) (arcsB ts r).length = 1 := by
    intro b b0 b1
    have := F.con (ts.length + b) (by omega) (by simp only; omega)
    simp only at this
    rw [hs _ (by omega) (by omega)] at this
    unfold supF at this
    rw [if_neg (by omega), if_pos (by omega)] at this
    have e2 : sumTo (fun i => if (ar (arcsB ts r) i).To = ts.length + b then gi f.X i else 0) (arcsB ts r).length = - netf (Graph.mk s (arcsB ts r)) f.X (ts.length + b) := by
      unfold netf
      rw [← sumTo_neg]
      refine sumTo_congr (fun i i0 i1 => ?_)
      have e := (ends i i0 i1).1
      simp only
      rw [if_neg (show ¬ (ar (arcsB ts r) i).From = ts.length + b by omega)]
      split <;> simp
    rw [e2, this]; rfl
  have nn : ∀ i : Int, 0 ≤ i → i < (arcsB ts r).length → 0 ≤ gi f.X i := fun i i0 i1 => (F.rng i i0 i1).1
  have uf : ∀ i j : Int, 0 ≤ i → i < (arcsB ts r).length → 0 ≤ j → j < (arcsB ts r).length → gi f.X i = 1 → gi f.X j = 1 → (ar (arcsB ts r) i).From = (ar (arcsB ts r) j).From → 0 ≤ (ar (arcsB ts r) i).From → (ar (arcsB ts r) i).From < ts.length → i = j := by
    intro i j i0 i1 j0 j1 hi hj he p0 p1
    refine Classical.byContradiction fun hne => ?_
    have a := outs _ p0 p1
    have b := sumTo_ge2 (f := fun k => if (ar (arcsB ts r) k).From = (ar (arcsB ts r) i).From then gi f.X k else 0) (n := (arcsB ts r).length) (fun k k0 k1 => by
      split
      · exact nn k k0 k1
      · omega) i0 i1 j0 j1 hne
    rw [a] at b
    rw [if_pos rfl, if_pos he.symm, hi, hj] at b
    omega
  have ut : ∀ (b : Int), 0 ≤ b → b < ts.length → ∀ i j : Int, 0 ≤ i → i < (arcsB ts r).length → 0 ≤ j → j < (arcsB ts r).length → gi f.X i = 1 → gi f.X j = 1 → (ar (arcsB ts r) i).To = ts.length + b → (ar (arcsB ts r) j).To = ts.length + b → i = j := by
    intro b b0 b1 i j i0 i1 j0 j1 hi hj ei ej
    refine Classical.byContradiction fun hne => ?_
    have a := ins b b0 b1
    have b' := sumTo_ge2 (f := fun k => if (ar (arcsB ts r) k).To = ts.length + b then gi f.X k else 0) (n := (arcsB ts r).length) (fun k k0 k1 => by
      split
      · exact nn k k0 k1
      · omega) i0 i1 j0 j1 hne
    rw [a, if_pos ei, if_pos ej, hi, hj] at b'
    omega
  -- a circulation
  have C : Circ ts r next := by
    refine ⟨nl, fun a a0 a1 => ?_, fun a b a0 a1 b0 b1 e hne => ?_⟩
    · rcases h1 a a0 a1 with h | ⟨j, j0, j1, hx, hf, ht⟩
      · exact Or.inl h
      · right
        obtain ⟨c, d, c0, c1, d0, d1, hfo, hp⟩ := arcsB_pair ts r j0 j1
        rw [hp] at hf ht
        simp only [pr] at hf ht
        have e1 : gi next a = d := by omega
        rw [e1, ← hf]
        exact ⟨d0, d1, hfo⟩
    · rcases h1 a a0 a1 with h | ⟨j, j0, j1, hx, hf, ht⟩
      · exact absurd h hne
      · rcases h1 b b0 b1 with h' | ⟨j', j0', j1', hx', hf', ht'⟩
        · rw [← e] at h'; exact absurd h' hne
        · obtain ⟨c, d, c0, c1, d0, d1, hfo, hp⟩ := arcsB_pair ts r j0 j1
          have e1 : gi next a = d := by rw [hp] at ht; simp only [pr] at ht; omega
          have := ut (gi next a) (by omega) (by omega) j j' (by omega) j1 (by omega) j1' hx hx' ht (by rw [ht', e])
          subst this
          rw [← hf, ← hf']
  -- the flow is the circulation's
  have pairX : ∀ a b : Int, 0 ≤ a → a < ts.length → 0 ≤ b → b < ts.length → ∀ j : Int, 2 * (ts.length : Int) ≤ j → j < (arcsB ts r).length → ar (arcsB ts r) j = pr ts r a b → (gi f.X j = 1 ↔ gi next a = b) := by
    intro a b a0 a1 b0 b1 j j0 j1 hj
    constructor
    · intro hx
      have hne := h2 j j0 j1 hx
      rw [hj] at hne
      simp only [pr] at hne
      rcases h1 a a0 a1 with h | ⟨j', j0', j1', hx', hf', ht'⟩
      · exact absurd h hne
      · have := uf j j' (by omega) j1 (by omega) j1' hx hx' (by rw [hj, hf']; rfl) (by rw [hj]; exact a0) (by rw [hj]; exact a1)
        subst this
        rw [hj] at ht'
        simp only [pr] at ht'
        omega
    · intro hx
      rcases h1 a a0 a1 with h | ⟨j', j0', j1', hx', hf', ht'⟩
      · omega
      · obtain ⟨c, d, c0, c1, d0, d1, hfo, hp⟩ := arcsB_pair ts r j0' j1'
        have : ar (arcsB ts r) j' = pr ts r a b := by
          rw [hp] at hf' ht' ⊢
          simp only [pr] at hf' ht'
          have e1 : c = a := hf'
          have e2 : d = b := by omega
          rw [e1, e2]
        have := arcsB_inj ts r j0 j1 j0' j1' (by rw [hj, this])
        rw [this]; exact hx'
  have baseX : ∀ a : Int, 0 ≤ a → a < ts.length → gi f.X (2 * a) = if gi next a = -1 then 1 else 0 := by
    intro a a0 a1
    have h := arcsB_base ts r a0 a1
    rcases h1 a a0 a1 with hm | ⟨j, j0, j1, hx, hf, ht⟩
    · rw [if_pos hm]
      have := outs a a0 a1
      rw [sumTo_only (k := 2 * a) (by omega) (by omega) (fun i i0 i1 hne => ?_)] at this
      · rw [h.1] at this; simpa using this
      · by_cases e : (ar (arcsB ts r) i).From = a
        · rw [if_pos e]
          by_cases e2 : i < 2 * ts.length
          · have h' := arcsB_base ts r (a := i / 2) (by omega) (by omega)
            by_cases ei : i % 2 = 0
            · rw [show i = 2 * (i / 2) by omega, h'.1] at e
              simp only at e
              omega
            · rw [show i = 2 * (i / 2) + 1 by omega, h'.2] at e
              simp only at e
              omega
          · rcases xr i i0 i1 with h0 | h0
            · exact h0
            · have := h2 i (by omega) i1 h0
              rw [e] at this
              exact absurd hm this
        · rw [if_neg e]
    · have hne : gi next a ≠ -1 := by have := h2 j j0 j1 hx; rw [hf] at this; exact this
      rw [if_neg hne]
      rcases xr (2 * a) (by omega) (by omega) with h0 | h0
      · exact h0
      · have := uf (2 * a) j (by omega) (by omega) (by omega) j1 h0 hx (by rw [h.1, hf]) (by rw [h.1]; exact a0) (by rw [h.1]; exact a1)
        omega
  have baseY : ∀ b : Int, 0 ≤ b → b < ts.length → gi f.X (2 * b + 1) = 1 - sumTo (fun a => if gi next a = b then 1 else 0) ts.length := by
    intro b b0 b1
    have h := arcsB_base ts r b0 b1
    rcases C.one b0 b1 with ⟨e, hno⟩ | ⟨e, a, a0, a1, ea⟩
    · rw [e]
      have := ins b b0 b1
      rw [sumTo_only (k := 2 * b + 1) (by omega) (by omega) (fun i i0 i1 hne => ?_)] at this
      · rw [h.2] at this; simpa using this
      · by_cases e' : (ar (arcsB ts r) i).To = ts.length + b
        · rw [if_pos e']
          by_cases e2 : i < 2 * ts.length
          · have h' := arcsB_base ts r (a := i / 2) (by omega) (by omega)
            by_cases ei : i % 2 = 0
            · rw [show i = 2 * (i / 2) by omega, h'.1] at e'
              simp only at e'
              omega
            · rw [show i = 2 * (i / 2) + 1 by omega, h'.2] at e'
              simp only at e'
              omega
          · rcases xr i i0 i1 with h0 | h0
            · exact h0
            · obtain ⟨c, d, c0, c1, d0, d1, hfo, hp⟩ := arcsB_pair ts r (by omega) i1
              have := (pairX c d c0 c1 d0 d1 i (by omega) i1 hp).1 h0
              rw [hp] at e'
              simp only [pr] at e'
              exact absurd (by omega : gi next c = b) (hno c c0 c1)
        · rw [if_neg e']
    · rw [e]
      rcases h1 a a0 a1 with hm | ⟨j, j0, j1, hx, hf, ht⟩
      · omega
      · rcases xr (2 * b + 1) (by omega) (by omega) with h0 | h0
        · rw [h0]; rfl
        · have := ut b b0 b1 (2 * b + 1) j (by omega) (by omega) (by omega) j1 h0 hx (by rw [h.2]) (by rw [ht, ea])
          omega
  refine ⟨C, ⟨?_, ?_, ?_, ?_⟩, ?_⟩
  · intro a a0 a1 ha
    have h := arcsB_base ts r a0 a1
    have x := baseX a a0 a1
    rw [if_pos ha] at x
    have := (o.red (2 * a) (by omega) (by simp only; omega)).2 (by rw [x]; omega)
    unfold rc at this
    simp only at this
    rw [h.1] at this
    simp only at this
    omega
  · intro a b a0 a1 b0 b1 hf hne
    obtain ⟨j, j0, j1, hj⟩ := arcsB_find ts r a0 a1 b0 b1 hf
    have x : gi f.X j = 0 := by
      rcases xr j (by omega) j1 with h | h
      · exact h
      · exact absurd ((pairX a b a0 a1 b0 b1 j j0 j1 hj).1 h) hne
    have := (o.red j (by omega) (by simp only; omega)).1 (by simp only; rw [x, cap1 j (by omega) j1]; omega)
    unfold rc at this
    simp only at this
    rw [hj] at this
    simp only [pr] at this
    omega
  · intro a b a0 a1 b0 b1 e
    rcases C.ok a a0 a1 with h | ⟨_, _, hfo⟩
    · omega
    · rw [e] at hfo
      obtain ⟨j, j0, j1, hj⟩ := arcsB_find ts r a0 a1 b0 b1 hfo
      have x := (pairX a b a0 a1 b0 b1 j j0 j1 hj).2 e
      have := (o.red j (by omega) (by simp only; omega)).2 (by rw [x]; omega)
      unfold rc at this
      simp only at this
      rw [hj] at this
      simp only [pr] at this
      omega
  · intro b b0 b1 hno
    have h := arcsB_base ts r b0 b1
    have x := baseY b b0 b1
    rw [sumTo_zero (fun a a0 a1 => by rw [if_neg (hno a a0 a1)])] at x
    have := (o.red (2 * b + 1) (by omega) (by simp only; omega)).2 (by rw [x]; omega)
    unfold rc at this
    simp only at this
    rw [h.2] at this
    simp only at this
    omega
  · intro next' C'
    obtain ⟨F', c'⟩ := phi_feas T hn hl hs C'
    obtain ⟨F0, c0⟩ := phi_feas T hn hl hs C
    have le := o.least V F'
    rw [c'] at le
    have eq : costS (Graph.mk s (arcsB ts r)) f.X = costS (Graph.mk s (arcsB ts r)) ((arcsB ts r).map (phi ts next)) := by
      unfold costS
      simp only
      refine sumTo_congr (fun i i0 i1 => ?_)
      have gm : gi ((arcsB ts r).map (phi ts next)) i = phi ts next (ar (arcsB ts r) i) := by
        have h : i.toNat < (arcsB ts r).length := by omega
        unfold gi ar; simp [h]
      rw [gm]
      congr 1
      by_cases e : i < 2 * ts.length
      · have h := arcsB_base ts r (a := i / 2) (by omega) (by omega)
        by_cases ei : i % 2 = 0
        · have := baseX (i / 2) (by omega) (by omega)
          rw [show 2 * (i / 2) = i by omega] at this h
          rw [this, h.1, phi_a]
        · have := baseY (i / 2) (by omega) (by omega)
          rw [show 2 * (i / 2) + 1 = i by omega] at this h
          rw [this, h.2, phi_b ts next (by omega)]
      · obtain ⟨a, b, a0, a1, b0, b1, _, h⟩ := arcsB_pair ts r (by omega) i1
        have := pairX a b a0 a1 b0 b1 i (by omega) i1 h
        rw [h, phi_p ts r next a1 b1]
        rcases xr i i0 i1 with hx | hx
        · rw [hx, if_neg (fun e => by have := this.2 e; omega)]
        · rw [hx, if_pos (this.1 hx)]
    rw [o.cost, eq, c0] at le
    exact le

theorem build_wp {ts : List Task} {r : Rules} (T : TV ts r) (hn : ts.length ≤ 20) : WP (circulation_Build_m ts r) (fun y => y.2.2 = 0 ∧ Built ts r y.1 y.2.1) := by
  unfold circulation_Build_m
  refine wp_is (by rw [checkT_m, T.h]) (wp_ite (fun h => by cases h) (fun _ => ?_))
  refine wp_i64 (by omega) (wp_i64 (by omega) ?_)
  rw [mk_int (by omega) (by omega)]
  simp only [Option.bind_some]
  refine wp_iter (fun (t : List Int × List Arc × Nat) => t.2.2 ≤ ts.length ∧ t.1.length = 2 * ts.length + 1 ∧ t.2.1 = baseA ts.length t.2.2 ∧ ∀ v : Int, 0 ≤ v → v ≤ 2 * ts.length → gi t.1 v = if v < t.2.2 then 1 else if (ts.length : Int) ≤ v ∧ v < ts.length + t.2.2 then -1 else 0)
    (fun t => 100 - t.2.2) _ ?_ FUEL _ ⟨Nat.zero_le _, by simp; omega, rfl, fun v v0 v1 => by simp only; rw [gi_rep _ _ _ v0 (by omega), if_neg (by omega), if_neg (by omega)]⟩ (fuel_of (by simp only; omega))
  rintro k ⟨s, g, t⟩ ⟨ht, hsl, hg, hs⟩ hc
  simp only at ht hsl hg hs hc
  subst hg
  have bl := baseA_len ts.length t
  simp only [circulation_Build_b1]
  refine wp_ite (fun h => ?_) (fun h => ?_)
  · simp only [decide_eq_true_eq] at h
    refine wp_i64 (by omega) (wp_idxi (by omega) (wp_idxi (by rw [List.length_set]; omega) (wp_i64 (by omega) (wp_i64 (by omega) (wp_i64 (by omega) (wp_chk (by simp; omega) (wp_i64 (by omega) (hc _ ⟨by simp only; omega, by simp only [List.length_set]; exact hsl, rfl, fun v v0 v1 => ?_⟩ (by simp only; omega)))))))))
    simp only
    rw [gi_set _ _ _ _ (by omega) v0 (by rw [List.length_set]; omega), gi_set _ _ _ _ (by omega) v0 (by omega)]
    by_cases e1 : v = ts.length + t
    · rw [if_pos e1, if_neg (by omega), if_pos (by omega)]
    · rw [if_neg e1]
      by_cases e2 : v = t
      · rw [if_pos e2, if_pos (by omega)]
      · rw [if_neg e2, hs v v0 v1]
        by_cases e3 : v < t
        · rw [if_pos e3, if_pos (by omega)]
        · rw [if_neg e3, if_neg (show ¬ v < ((t + 1 : Nat) : Int) by omega)]
          by_cases e4 : (ts.length : Int) ≤ v ∧ v < ts.length + t
          · rw [if_pos e4, if_pos (by omega)]
          · rw [if_neg e4, if_neg (by omega)]
  · simp only [decide_eq_false_iff_not] at h
    obtain rfl : t = ts.length := by omega
    have hs' : ∀ v : Int, 0 ≤ v → v ≤ 2 * ts.length → gi s v = supF ts.length v := fun v v0 v1 => by
      rw [hs v v0 v1]
      unfold supF
      by_cases e1 : v < ts.length
      · rw [if_pos e1, if_pos e1]
      · rw [if_neg e1, if_neg e1]
        by_cases e2 : v < 2 * ts.length
        · rw [if_pos (by omega), if_pos e2]
        · rw [if_neg (by omega), if_neg e2]
    clear hc
    simp only [circulation_Build_k1]
    refine wp_iter (fun (t : List Arc × Nat) => t.2 ≤ ts.length ∧ t.1 = baseA ts.length ts.length ++ allP ts r t.2) (fun t => 100 - t.2) _ ?_ FUEL _ ⟨Nat.zero_le _, by simp [allP]⟩ (fuel_of (by simp only; omega))
    rintro k2 ⟨g, a⟩ ⟨ha, hg⟩ hc2
    simp only at ha hg hc2
    subst hg
    simp only [circulation_Build_b2]
    refine wp_ite (fun h2 => ?_) (fun h2 => ?_)
    · simp only [decide_eq_true_eq] at h2
      refine wp_iter (fun (t : List Arc × Nat) => t.2 ≤ ts.length ∧ t.1 = baseA ts.length ts.length ++ allP ts r a ++ rowP ts r a t.2) (fun t => 100 - t.2) _ ?_ FUEL _ ⟨Nat.zero_le _, by simp [rowP]⟩ (fuel_of (by simp only; omega))
      rintro k3 ⟨g, b⟩ ⟨hb, hg⟩ hc3
      simp only at hb hg hc3
      subst hg
      have al := allP_len ts r a
      have rl := rowP_len ts r a b
      have am : a * ts.length ≤ 20 * 20 := Nat.mul_le_mul (by omega) hn
      simp only [circulation_Build_b3]
      refine wp_ite (fun h3 => ?_) (fun h3 => ?_)
      · simp only [decide_eq_true_eq] at h3
        have sb := T.sec a b
        refine wp_idxt (by omega) (wp_idxt (by omega) (wp_is (T.fo _ (by omega) (by omega)).1 (wp_ite (fun hf => ?_) (fun hf => ?_))))
        · refine wp_i64 (by omega) (wp_i64 (by omega) (wp_chk (by simp; omega) ?_))
          simp only [circulation_Build_k4]
          refine wp_i64 (by omega) (hc3 _ ⟨by simp only; omega, ?_⟩ (by simp only; omega))
          simp only
          rw [rowP, if_pos (by exact hf), ← List.append_assoc]
          rfl
        · simp only [circulation_Build_k4]
          refine wp_i64 (by omega) (hc3 _ ⟨by simp only; omega, ?_⟩ (by simp only; omega))
          simp only
          rw [rowP, if_neg (by unfold fok; rw [hf]; decide), List.append_nil]
      · simp only [decide_eq_false_iff_not] at h3
        obtain rfl : b = ts.length := by omega
        simp only [circulation_Build_k3]
        refine wp_i64 (by omega) (hc2 _ ⟨by simp only; omega, ?_⟩ (by simp only; omega))
        simp only
        rw [allP, List.append_assoc]
    · simp only [decide_eq_false_iff_not] at h2
      obtain rfl : a = ts.length := by omega
      have fold : baseA ts.length ts.length ++ allP ts r ts.length = arcsB ts r := rfl
      rw [fold]
      simp only [circulation_Build_k2]
      rw [mk_int (by omega) (by omega)]
      simp only [Option.bind_some]
      refine wp_iter (fun (t : List Int × Nat) => t.2 ≤ ts.length ∧ t.1.length = ts.length ∧ ∀ v : Int, 0 ≤ v → v < t.2 → gi t.1 v = -1) (fun t => 100 - t.2) _ ?_ FUEL _ ⟨Nat.zero_le _, by simp, fun v _ v1 => by simp only at v1; omega⟩ (fuel_of (by simp only; omega))
      rintro k4 ⟨nx, t⟩ ⟨ht4, hnl, hnx⟩ hc4
      simp only at ht4 hnl hnx hc4
      simp only [circulation_Build_b4]
      refine wp_ite (fun h4 => ?_) (fun h4 => ?_)
      · simp only [decide_eq_true_eq, List.length_replicate] at h4
        refine wp_idxi (by omega) (hc4 _ ⟨by simp only; omega, by simp only [List.length_set]; exact hnl, fun v v0 v1 => ?_⟩ (by simp only; omega))
        simp only at v1 ⊢
        rw [gi_set _ _ _ _ (by omega) v0 (by omega)]
        by_cases e : v = t
        · rw [if_pos e]
        · rw [if_neg e]; exact hnx v v0 (by omega)
      · simp only [decide_eq_false_iff_not, List.length_replicate] at h4
        obtain rfl : t = ts.length := by omega
        simp only [circulation_Build_k5]
        have V := buildG_valid T hn hsl hs'
        have none : Circ ts r (List.replicate ts.length (-1)) := by
          have gr : ∀ a : Int, 0 ≤ a → a < ts.length → gi (List.replicate ts.length (-1)) a = -1 := fun a a0 a1 => gi_rep _ _ _ a0 a1
          exact ⟨by simp, fun a a0 a1 => Or.inl (gr a a0 a1), fun a b a0 a1 _ _ _ hne => absurd (gr a a0 a1) hne⟩
        obtain ⟨f, hf, o⟩ := solve_ok V (phi_feas T hn hsl hs' none).1
        refine wp_is hf (wp_ite (fun h => by simp at h) (fun _ => wp_i64 (by omega) ?_))
        have bb := baseA_len ts.length ts.length
        have al := allP_len ts r ts.length
        have am : ts.length * ts.length ≤ 20 * 20 := Nat.mul_le_mul hn hn
        have hA : (arcsB ts r).length = 2 * ts.length + (allP ts r ts.length).length := by unfold arcsB; rw [List.length_append, bb]
        have xl := o.feas.len
        simp only at xl
        refine wp_iter (fun (t : List Int × Int) => 2 * (ts.length : Int) ≤ t.2 ∧ t.2 ≤ (arcsB ts r).length ∧ t.1.length = ts.length ∧
            (∀ a : Int, 0 ≤ a → a < ts.length → gi t.1 a = -1 ∨ ∃ j : Int, 2 * (ts.length : Int) ≤ j ∧ j < t.2 ∧ gi f.X j = 1 ∧ (ar (arcsB ts r) j).From = a ∧ (ar (arcsB ts r) j).To = ts.length + gi t.1 a) ∧
            (∀ j : Int, 2 * (ts.length : Int) ≤ j → j < t.2 → gi f.X j = 1 → gi t.1 (ar (arcsB ts r) j).From ≠ -1))
          (fun t => (10000 - t.2).toNat) _ ?_ FUEL _ ⟨by simp only; omega, by simp only; omega, hnl, fun a a0 a1 => Or.inl (hnx a a0 a1), fun j j0 j1 => by simp only at j1; omega⟩ (fuel_of (by simp only; omega))
        rintro k5 ⟨nx, i⟩ ⟨i0, i1, hnl5, hb5, ha5⟩ hc5
        simp only at i0 i1 hnl5 hb5 ha5 hc5
        simp only [circulation_Build_b5]
        refine wp_ite (fun h5 => ?_) (fun h5 => ?_)
        · simp only [decide_eq_true_eq] at h5
          obtain ⟨a, b, a0, a1, b0, b1, hfo, hp⟩ := arcsB_pair ts r i0 h5
          have ig : (arcsB ts r)[i.toNat]? = some (ar (arcsB ts r) i) := by
            have : i.toNat < (arcsB ts r).length := by omega
            unfold ar; simp [this]
          refine wp_idxi (by omega) (wp_ite (fun hx => ?_) (fun hx => ?_))
          · simp only [decide_eq_true_eq] at hx
            refine wp_idx (by omega) ig (wp_idx (by omega) ig ?_)
            rw [hp]
            simp only [pr]
            rw [show (ts.length : Int) + b - ts.length = b by omega]
            refine wp_i64 (by omega) (wp_idxi (by omega) ?_)
            simp only [circulation_Build_k7]
            have gs : ∀ v : Int, 0 ≤ v → gi (nx.set a.toNat b) v = if v = a then b else gi nx v := fun v v0 => gi_set _ _ _ _ a0 v0 (by omega)
            refine wp_i64 (by omega) (hc5 _ ⟨by simp only; omega, by simp only; omega, by simp only [List.length_set]; exact hnl5, fun c c0 c1 => ?_, fun j j0 j1 hj => ?_⟩ (by simp only; omega))
            · simp only
              rw [gs c c0]
              by_cases e : c = a
              · rw [if_pos e]
                right
                exact ⟨i, i0, by omega, hx, by rw [hp, e]; rfl, by rw [hp]; rfl⟩
              · rw [if_neg e]
                rcases hb5 c c0 c1 with h | ⟨j, j0, j1, h⟩
                · exact Or.inl h
                · exact Or.inr ⟨j, j0, by omega, h⟩
            · simp only at j1 ⊢
              obtain ⟨c, d, c0, c1, d0, d1, _, hpj⟩ := arcsB_pair ts r j0 (by omega : j < (arcsB ts r).length)
              rw [gs _ (by rw [hpj]; exact c0)]
              split
              · omega
              · rename_i hne
                by_cases e : j = i
                · rw [e, hp] at hne; exact absurd rfl hne
                · exact ha5 j j0 (by omega) hj
          · simp only [decide_eq_false_iff_not] at hx
            simp only [circulation_Build_k7]
            refine wp_i64 (by omega) (hc5 _ ⟨by simp only; omega, by simp only; omega, hnl5, fun c c0 c1 => ?_, fun j j0 j1 hj => ?_⟩ (by simp only; omega))
            · simp only
              rcases hb5 c c0 c1 with h | ⟨j, j0, j1, h⟩
              · exact Or.inl h
              · exact Or.inr ⟨j, j0, by omega, h⟩
            · have : j ≠ i := fun e => by subst e; exact hx hj
              exact ha5 j j0 (by simp only at j1; omega) hj
        · simp only [decide_eq_false_iff_not] at h5
          obtain rfl : i = (arcsB ts r).length := by omega
          obtain ⟨C, K, best⟩ := read_off T hn hsl hs' o hnl5 hb5 ha5
          simp only [circulation_Build_k6]
          refine wp_bind _ (cover_wp T C K) ?_
          intro c hcv
          exact wp_some ⟨rfl, hcv, best⟩
end Go.Proofs.Ytedocibniankjaa

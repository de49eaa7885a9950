/- Plain laws of chapter 27: feasible and prices. -/
import Derived.Test.YtedocibniankjaaQ4
namespace Go.Proofs.Ytedocibniankjaa
open Go.Dc

theorem feas_wp {n A : Int} {E : List Arc} {fr : List (List Int)} {sup left exc price : List Int} {u C : Int} (c : Cx n A E fr sup left exc price u C) :
    WP (flow_residual_feasible_m (Flow_residual.mk n A (toL E) left (costL E) fr exc price)) (fun b => b = true ↔ ∀ i : Int, A ≤ i → i < E.length → gi left (2 * i + 1) ≤ 0) := by
  have hb := c.s.lenb
  have A0 := c.s.A0
  have len := c.s.len
  have n1 := c.s.n1
  have tl := toL_len E
  have ll := c.d.ll
  unfold flow_residual_feasible_m
  have hd : ((toL E).length : Int).tdiv 2 = E.length := by rw [Int.tdiv_eq_ediv_of_nonneg (by omega)]; omega
  refine wp_iter (fun (i : Int) => A ≤ i ∧ i ≤ E.length ∧ ∀ j : Int, A ≤ j → j < i → gi left (2 * j + 1) ≤ 0) (fun i => (10000 - i).toNat) _ ?_ FUEL _ ⟨by simp only; omega, by simp only; omega, fun j _ _ => by simp only at *; omega⟩ (fuel_of (by simp only; omega))
  rintro k i ⟨i0, i1, hi⟩ hc
  simp only [flow_residual_feasible_b1]
  rw [hd]
  refine wp_chk (by simp [i64b]; omega) (wp_ite (fun h => ?_) (fun h => ?_))
  · simp only [decide_eq_true_eq] at h
    refine wp_i64 (by omega) (wp_i64 (by omega) (wp_idxi (by omega) (wp_ite (fun hp => ?_) (fun hp => ?_))))
    · simp only [decide_eq_true_eq] at hp
      refine wp_some ⟨fun h => (by cases h), fun h => ?_⟩
      have := h i i0 (by omega)
      omega
    · simp only [decide_eq_false_iff_not] at hp
      refine wp_i64 (by omega) (hc _ ⟨by omega, by omega, fun j j0 j1 => ?_⟩ (by omega))
      by_cases e : j = i
      · subst e; omega
      · exact hi j j0 (by omega)
  · simp only [decide_eq_false_iff_not] at h
    exact wp_some ⟨fun _ j j0 j1 => hi j j0 (by omega), fun _ => rfl⟩

theorem St.nt {n A : Int} {E : List Arc} {fr : List (List Int)} (s : St n A E fr) {h : Int} (h0 : 0 ≤ h) (h1 : h < 2 * A) : h < 2 * (E.length : Int) ∧ 0 ≤ gi (toL E) h ∧ gi (toL E) h < n ∧ 0 ≤ gi (toL E) (xr h) ∧ gi (toL E) (xr h) < n ∧ -1048576 ≤ gi (costL E) h ∧ gi (costL E) h ≤ 1048576 := by
  have len := s.len
  have n1 := s.n1
  have hl : h < 2 * (E.length : Int) := by omega
  have hx := xr_rng h0 hl
  have hd := xr_div h
  obtain ⟨a1, a2, a3, a4, a5⟩ := s.net (h / 2) (by omega) (by omega)
  obtain ⟨b1, _, b3, _⟩ := s.rng (h / 2) (by omega) (by omega)
  refine ⟨hl, ?_⟩
  by_cases e : h % 2 = 0
  · have e' : xr h % 2 ≠ 0 := by unfold xr; split <;> omega
    unfold toL costL
    rw [flat2_even _ _ _ _ h0 hl e, flat2_odd _ _ _ _ hx.1 hx.2 e', flat2_even _ _ _ _ h0 hl e, hd]
    exact ⟨b3, a2, b1, a1, a4, a5⟩
  · have e' : xr h % 2 = 0 := by unfold xr; split <;> omega
    unfold toL costL
    rw [flat2_odd _ _ _ _ h0 hl e, flat2_even _ _ _ _ hx.1 hx.2 e', flat2_odd _ _ _ _ h0 hl e, hd]
    exact ⟨b1, a1, b3, a2, by omega, by omega⟩

/-- How far prices can still fall. -/
def room (n : Int) (p : List Int) : Int := sumTo (fun v => gi p v + 402653184) n.toNat

theorem prices_wp {n A : Int} {E : List Arc} {fr : List (List Int)} {sup left exc price : List Int} {C : Int} (c : Cx n A E fr sup left exc price 1 C) :
    WP (flow_residual_prices_m (Flow_residual.mk n A (toL E) left (costL E) fr exc price)) (fun p => (p.length : Int) = n ∧ (∀ v : Int, 0 ≤ v → v < n → -402653184 ≤ gi p v ∧ gi p v ≤ 0) ∧
      ∀ h : Int, 0 ≤ h → h < 2 * A → 0 < gi left h → gi p (gi (toL E) h) ≤ gi p (gi (toL E) (xr h)) + gi (costL E) h) := by
  have n1 := c.s.n1
  have n2 := c.s.n2
  have A0 := c.s.A0
  have A1 := c.s.A1
  have hb := c.s.lenb
  have tl := toL_len E
  have cl := costL_len E
  have ll := c.d.ll
  have len := c.s.len
  unfold flow_residual_prices_m
  have m1 : mk (α := Int) 0 n = some (List.replicate n.toNat 0) := by
    unfold mk; rw [if_pos]; exact ⟨by omega, by show n * 8 ≤ _; omega⟩
  rw [m1]
  simp only [Option.bind_some]
  -- the prices stay above those of the flow
  let q : Int → Int := fun v => gi price v - gi price n - 201326592
  have q0 : ∀ v : Int, 0 ≤ v → v < n → -402653184 ≤ q v ∧ q v ≤ 0 := fun v v0 v1 => by
    have := c.near v0 (by omega : v ≤ n)
    simp only [q]; omega
  have qc : ∀ h : Int, 0 ≤ h → h < 2 * A → 0 < gi left h → q (gi (toL E) h) ≤ q (gi (toL E) (xr h)) + gi (costL E) h := fun h h0 h1 hl => by
    have := c.opt h h0 (by omega) (by omega)
    unfold red at this
    simp only [q]; omega
  have rm : ∀ p : List Int, (∀ v : Int, 0 ≤ v → v < n → q v ≤ gi p v ∧ gi p v ≤ 0) → 0 ≤ room n p ∧ room n p ≤ 40000000000 := fun p hp => by
    constructor
    · exact sumTo_nonneg (fun i i0 i1 => by have := hp i i0 (by omega); have := q0 i i0 (by omega); omega)
    · have := sumTo_le (f := fun v => gi p v + 402653184) (g := fun _ => 402653184) (n := n.toNat) (fun i i0 i1 => by have := hp i i0 (by omega); omega)
      rw [sumTo_const] at this
      unfold room
      omega
  refine wp_iter (fun (t : List Int × Bool) => (t.1.length : Int) = n ∧ (∀ v : Int, 0 ≤ v → v < n → q v ≤ gi t.1 v ∧ gi t.1 v ≤ 0) ∧ (t.2 = false → ∀ h : Int, 0 ≤ h → h < 2 * A → 0 < gi left h → gi t.1 (gi (toL E) h) ≤ gi t.1 (gi (toL E) (xr h)) + gi (costL E) h))
    (fun t => 2 * (room n t.1).toNat + (if t.2 then 1 else 0)) _ ?_ FUEL _ ?_ ?_
  · rintro k ⟨p, ch⟩ ⟨hl, hq, hcl⟩ hc
    simp only at hl hq hcl hc
    simp only [flow_residual_prices_b1]
    refine wp_ite (fun hch => ?_) (fun hch => ?_)
    · subst hch
      simp only [if_true] at hc
      have rp := rm p hq
      refine wp_i64 (by omega) ?_
      refine wp_iter (fun (t : List Int × Bool × Nat) => (t.2.2 : Int) ≤ 2 * A ∧ (t.1.length : Int) = n ∧ (∀ v : Int, 0 ≤ v → v < n → q v ≤ gi t.1 v ∧ gi t.1 v ≤ 0) ∧ (t.2.1 = true → room n t.1 < room n p) ∧
          (t.2.1 = false → t.1 = p ∧ ∀ h : Int, 0 ≤ h → h < t.2.2 → 0 < gi left h → gi p (gi (toL E) h) ≤ gi p (gi (toL E) (xr h)) + gi (costL E) h))
        (fun t => 10000 - t.2.2) _ ?_ FUEL _ ⟨by simp only; omega, hl, hq, fun h => (by cases h), fun _ => ⟨rfl, fun h h0 h1 => by simp only at h1; omega⟩⟩ (fuel_of (by simp only; omega))
      rintro k2 ⟨p2, ch2, t⟩ ⟨ht, hl2, hq2, hr, hu⟩ hc2
      simp only at ht hl2 hq2 hr hu hc2
      simp only [flow_residual_prices_b2]
      refine wp_ite (fun h => ?_) (fun h => ?_)
      · simp only [decide_eq_true_eq] at h
        have t0 : (0 : Int) ≤ t := by omega
        obtain ⟨t1, a1, a2, a3, a4, a5, a6⟩ := c.s.nt t0 h
        have hx := xr_rng t0 t1
        rw [bx t0 (by omega)]
        have go : (0 < gi left t → gi p2 (gi (toL E) t) ≤ gi p2 (gi (toL E) (xr t)) + gi (costL E) t) → WP (flow_residual_prices_k2 t k2 (p2, ch2)) _ := fun ho => by
          simp only [flow_residual_prices_k2]
          refine wp_i64 (by omega) (hc2 _ ⟨by simp only; omega, hl2, hq2, hr, ?_⟩ (by simp only; omega))
          intro he
          obtain ⟨rfl, hu'⟩ := hu he
          refine ⟨rfl, fun j j0 j1 hj => ?_⟩
          by_cases e : j = t
          · subst e; exact ho hj
          · exact hu' j j0 (by simp only at j1; omega) hj
        have b1 := hq2 _ a3 a4
        have b2 := hq2 _ a1 a2
        have b3 := q0 _ a3 a4
        refine wp_idxi (by omega) (wp_idxi (by omega) (wp_idxi (by omega) ?_))
        by_cases hp : 0 < gi left t
        · simp only [hp, decide_true, Bool.not_true, Bool.false_or, Bool.true_and]
          refine wp_whn (fun _ => ?_) (fun h => by cases h)
          refine wp_idxi (by omega) (wp_whn (fun _ => ?_) (fun h => by cases h))
          refine wp_idxi (by omega) (wp_i64 (by omega) (wp_whn (fun _ => ?_) (fun h => by cases h)))
          refine wp_idxi (by omega) (wp_ite (fun hlt => ?_) (fun hlt => ?_))
          · simp only [decide_eq_true_eq] at hlt
            refine wp_idxi (by omega) (wp_idxi (by omega) (wp_i64 (by omega) (wp_idxi (by omega) ?_)))
            simp only [flow_residual_prices_k2]
            have hqc := qc t t0 h hp
            have gs : ∀ v : Int, 0 ≤ v → gi (p2.set (gi (toL E) t).toNat (gi p2 (gi (toL E) (xr t)) + gi (costL E) t)) v = if v = gi (toL E) t then gi p2 (gi (toL E) (xr t)) + gi (costL E) t else gi p2 v := fun v v0 => gi_set _ _ _ _ a1 v0 (by omega)
            have rlt : room n (p2.set (gi (toL E) t).toNat (gi p2 (gi (toL E) (xr t)) + gi (costL E) t)) < room n p2 := by
              unfold room
              rw [sumTo_upd (f := fun v => gi p2 v + 402653184) (gi (toL E) t) (n := n.toNat) a1 (by omega) (fun i i0 i1 hne => by rw [gs i i0, if_neg hne])]
              rw [gs _ a1, if_pos rfl]
              omega
            refine wp_i64 (by omega) (hc2 _ ⟨by simp only; omega, by simp only [List.length_set]; exact hl2, ?_, ?_, fun h => (by cases h)⟩ (by simp only; omega))
            · intro v v0 v1
              simp only
              rw [gs v v0]
              by_cases e : v = gi (toL E) t
              · rw [if_pos e, e]; omega
              · rw [if_neg e]; exact hq2 v v0 v1
            · intro _
              simp only
              cases hch : ch2 with
              | true => have := hr hch; omega
              | false => obtain ⟨rfl, _⟩ := hu hch; exact rlt
          · simp only [decide_eq_false_iff_not] at hlt
            exact go (fun _ => by omega)
        · simp only [hp, decide_false, Bool.not_false, Bool.true_or, Bool.false_and]
          refine wp_whn (fun h => by cases h) (fun _ => wp_whn (fun h => by cases h) (fun _ => wp_chk rfl (wp_whn (fun h => by cases h) (fun _ => ?_))))
          exact go (fun h => absurd h hp)
      · simp only [decide_eq_false_iff_not] at h
        have rp2 := rm p2 hq2
        refine hc _ ⟨hl2, hq2, ?_⟩ ?_
        · intro he
          obtain ⟨rfl, hu'⟩ := hu he
          exact fun j j0 j1 hj => hu' j j0 (by omega) hj
        · simp only
          cases hch : ch2 with
          | true => have := hr hch; simp only [if_true]; omega
          | false => obtain ⟨rfl, _⟩ := hu hch; simp only [Bool.false_eq_true, if_false]; omega
    · subst hch
      simp only [flow_residual_prices_k1]
      exact wp_some ⟨hl, fun v v0 v1 => by have := hq v v0 v1; have := q0 v v0 v1; omega, hcl rfl⟩
  · have gz : ∀ v : Int, gi (List.replicate n.toNat 0) v = 0 := fun v => by
      unfold gi; simp [List.getElem?_replicate]; split <;> simp
    exact ⟨by simp only [List.length_replicate]; omega, fun v v0 v1 => by simp only; rw [gz]; have := q0 v v0 v1; omega, fun h => (by cases h)⟩
  · have gz : ∀ v : Int, gi (List.replicate n.toNat 0) v = 0 := fun v => by
      unfold gi; simp [List.getElem?_replicate]; split <;> simp
    have := rm (List.replicate n.toNat 0) (fun v v0 v1 => by rw [gz]; have := q0 v v0 v1; omega)
    refine fuel_of ?_
    simp only [if_true]
    omega
end Go.Proofs.Ytedocibniankjaa

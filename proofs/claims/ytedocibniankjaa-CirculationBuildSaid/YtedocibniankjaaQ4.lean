/- Plain laws of chapter 27: the residual network of a valid network. -/
import Derived.Test.YtedocibniankjaaQ3
import Derived.Test.YtedocibniankjaaPa
namespace Go.Proofs.Ytedocibniankjaa
open Go.Dc

theorem gi_app1 (l m : List Int) {k : Int} (h0 : 0 ≤ k) (h : k < l.length) : gi (l ++ m) k = gi l k := by
  unfold gi
  have : k.toNat < l.length := by omega
  simp [List.getElem?_append_left this]
theorem gi_app2 (l m : List Int) {k : Int} (h : (l.length : Int) ≤ k) : gi (l ++ m) k = gi m (k - l.length) := by
  unfold gi
  have h1 : l.length ≤ k.toNat := by omega
  have h2 : (k - l.length).toNat = k.toNat - l.length := by omega
  simp [List.getElem?_append_right h1, h2]
theorem toL_app (E : List Arc) (a : Arc) : toL (E ++ [a]) = toL E ++ [a.To, a.From] := by simp [toL, flat2]
theorem costL_app (E : List Arc) (a : Arc) : costL (E ++ [a]) = costL E ++ [a.Cost, -a.Cost] := by simp [costL, flat2]
theorem leftL_app (E : List Arc) (a : Arc) : leftL (E ++ [a]) = leftL E ++ [a.Cap, 0] := by simp [leftL, flat2]

structure FR (n : Int) (E : List Arc) (fr : List (List Int)) : Prop where
  lf : (fr.length : Int) = n + 1
  frm : ∀ v : Int, 0 ≤ v → v ≤ n → ∀ h ∈ gll fr v, 0 ≤ h ∧ h < 2 * (E.length : Int) ∧ gi (toL E) (xr h) = v
  fra : ∀ h : Int, 0 ≤ h → h < 2 * (E.length : Int) → 0 ≤ gi (toL E) (xr h) ∧ gi (toL E) (xr h) ≤ n ∧ h ∈ gll fr (gi (toL E) (xr h))
  fl : ∀ v : Int, 0 ≤ v → v ≤ n → (gll fr v).length ≤ 2 * E.length

theorem add_wp {n : Int} {E : List Arc} {fr : List (List Int)} (F : FR n E fr) (a : Arc) (hE : E.length ≤ 100000) (f0 : 0 ≤ a.From) (f1 : a.From ≤ n) (t0 : 0 ≤ a.To) (t1 : a.To ≤ n) (hne : a.From ≠ a.To) (c0 : -1000000000 ≤ a.Cost) (c1 : a.Cost ≤ 1000000000)
    (x y : Int) (ex pr : List Int) :
    WP (flow_residual_add_m (Flow_residual.mk x y (toL E) (leftL E) (costL E) fr ex pr) a.From a.To a.Cap a.Cost) (fun z => ∃ fr', z = (toL (E ++ [a]), leftL (E ++ [a]), costL (E ++ [a]), fr') ∧ FR n (E ++ [a]) fr') := by
  have tl := toL_len E
  have ll := leftL_len E
  have cl := costL_len E
  have lf := F.lf
  have b1 := F.fl a.From f0 f1
  have b2 := F.fl a.To t0 t1
  unfold flow_residual_add_m
  simp only [List.length_cons, List.length_nil]
  have g1 : ∀ j m, 0 ≤ j → gll (fr.set a.From.toNat m) j = if j = a.From then m else gll fr j := fun j m hj => gll_set fr a.From j m f0 hj (by omega)
  refine wp_idxl (by omega) (wp_chk (by simp; omega) (wp_idxl (by omega) (wp_idxl (by rw [List.length_set]; omega) ?_)))
  rw [g1 _ _ t0, if_neg (Ne.symm hne)]
  refine wp_i64 (by omega) (wp_chk (by simp; omega) (wp_idxl (by rw [List.length_set]; omega) (wp_chk (by simp; omega) (wp_chk (by simp; omega) (wp_i64 (by omega) (wp_chk (by simp; omega) (wp_some ?_)))))))
  refine ⟨_, by rw [toL_app, leftL_app, costL_app], ?_⟩
  have g2 : ∀ j m m', 0 ≤ j → gll ((fr.set a.From.toNat m).set a.To.toNat m') j = if j = a.To then m' else if j = a.From then m else gll fr j := fun j m m' hj => by
    rw [gll_set _ a.To j m' t0 hj (by rw [List.length_set]; omega), g1 j m hj]
  have le : ((E ++ [a]).length : Int) = E.length + 1 := by simp
  have o1 : ∀ k : Int, 0 ≤ k → k < 2 * (E.length : Int) → gi (toL (E ++ [a])) (xr k) = gi (toL E) (xr k) := fun k k0 k1 => by
    have hx := xr_rng k0 k1
    rw [toL_app, gi_app1 _ _ hx.1 (by omega)]
  have o2 : gi (toL (E ++ [a])) (xr (toL E).length) = a.From := by
    have : xr ((toL E).length : Int) = (toL E).length + 1 := by unfold xr; rw [if_pos (by omega)]
    rw [this, toL_app, gi_app2 _ _ (by omega), show ((toL E).length : Int) + 1 - (toL E).length = 1 by omega]; rfl
  have o3 : gi (toL (E ++ [a])) (xr ((toL E).length + 1)) = a.To := by
    have : xr ((toL E).length + 1 : Int) = (toL E).length := by unfold xr; rw [if_neg (by omega)]; omega
    rw [this, toL_app, gi_app2 _ _ (by omega), show ((toL E).length : Int) - (toL E).length = 0 by omega]; rfl
  refine ⟨by simp only [List.length_set]; exact lf, ?_, ?_, ?_⟩
  · intro v v0 v1 h hm
    rw [g2 _ _ _ v0] at hm
    have old : h ∈ gll fr v → 0 ≤ h ∧ h < 2 * ((E ++ [a]).length : Int) ∧ gi (toL (E ++ [a])) (xr h) = v := fun hh => by
      obtain ⟨p, q, r⟩ := F.frm v v0 v1 h hh
      exact ⟨p, by omega, by rw [o1 h p q]; exact r⟩
    by_cases e1 : v = a.To
    · rw [if_pos e1, List.mem_append, List.mem_singleton] at hm
      rcases hm with hm | rfl
      · exact old (by rw [e1]; exact hm)
      · exact ⟨by omega, by omega, by rw [o3, e1]⟩
    · rw [if_neg e1] at hm
      by_cases e2 : v = a.From
      · rw [if_pos e2, List.mem_append, List.mem_singleton] at hm
        rcases hm with hm | rfl
        · exact old (by rw [e2]; exact hm)
        · exact ⟨by omega, by omega, by rw [o2, e2]⟩
      · rw [if_neg e2] at hm; exact old hm
  · intro h h0 h1
    by_cases e1 : h < 2 * (E.length : Int)
    · obtain ⟨p, q, r⟩ := F.fra h h0 e1
      rw [o1 h h0 e1]
      refine ⟨p, q, ?_⟩
      rw [g2 _ _ _ p]
      by_cases e2 : gi (toL E) (xr h) = a.To
      · rw [if_pos e2, List.mem_append]; left; rw [← e2]; exact r
      · rw [if_neg e2]
        by_cases e3 : gi (toL E) (xr h) = a.From
        · rw [if_pos e3, List.mem_append]; left; rw [← e3]; exact r
        · rw [if_neg e3]; exact r
    · by_cases e2 : h = (toL E).length
      · subst e2; rw [o2]
        refine ⟨f0, f1, ?_⟩
        rw [g2 _ _ _ f0, if_neg hne, if_pos rfl]; simp
      · have e3 : h = (toL E).length + 1 := by omega
        subst e3; rw [o3]
        refine ⟨t0, t1, ?_⟩
        rw [g2 _ _ _ t0, if_pos rfl]; simp
  · intro v v0 v1
    rw [g2 _ _ _ v0]
    have := F.fl v v0 v1
    split
    · rename_i e; subst e; simp only [List.length_append, List.length_singleton]; omega
    · split
      · rename_i e; subst e; simp only [List.length_append, List.length_singleton]; omega
      · simp only [List.length_append, List.length_singleton]; omega

/-- The artificial arcs. -/
def arts (n : Int) : Nat → List Arc
  | 0 => []
  | t + 1 => arts n t ++ [⟨t, n, 1099511627776, 201326592⟩] ++ [⟨n, t, 1099511627776, 201326592⟩]
theorem arts_len (n : Int) : ∀ t, (arts n t).length = 2 * t
  | 0 => rfl
  | t + 1 => by simp only [arts, List.length_append, List.length_singleton, arts_len n t]; omega
theorem arts_get (n : Int) : ∀ (t v : Nat), v < t → (arts n t)[2 * v]? = some ⟨v, n, 1099511627776, 201326592⟩ ∧ (arts n t)[2 * v + 1]? = some ⟨n, v, 1099511627776, 201326592⟩
  | 0, v, h => by omega
  | t + 1, v, h => by
    have hl := arts_len n t
    simp only [arts, List.append_assoc]
    by_cases e : v = t
    · subst e
      constructor
      · rw [List.getElem?_append_right (by omega), hl]; simp
      · rw [List.getElem?_append_right (by omega), hl, show 2 * v + 1 - 2 * v = 1 by omega]; simp
    · have := arts_get n t v (by omega)
      rw [List.getElem?_append_left (by omega), List.getElem?_append_left (by omega)]
      exact this

/-- All arcs of the residual network. -/
def arcsOf (g : Graph) : List Arc := g.Arcs ++ arts g.Supply.length g.Supply.length

theorem ar_get {E : List Arc} {i : Int} {a : Arc} (h : E[i.toNat]? = some a) : ar E i = a := by
  unfold ar; simp [h]
theorem ar_mem {E : List Arc} {i : Int} (h0 : 0 ≤ i) (h : i < E.length) : ar E i ∈ E := by
  have : i.toNat < E.length := by omega
  unfold ar; simp [this]
theorem ar_app1 (E F : List Arc) {i : Int} (h0 : 0 ≤ i) (h : i < E.length) : ar (E ++ F) i = ar E i := by
  have : i.toNat < E.length := by omega
  unfold ar; simp [List.getElem?_append_left this]
theorem ar_app2 (E F : List Arc) {i : Int} (h : (E.length : Int) ≤ i) : ar (E ++ F) i = ar F (i - E.length) := by
  have h1 : E.length ≤ i.toNat := by omega
  have h2 : (i - E.length).toNat = i.toNat - E.length := by omega
  unfold ar; simp [List.getElem?_append_right h1, h2]

theorem newres_wp (g : Graph) (V : Valid g) : WP (flow_newResidual_m g) (fun r => ∃ fr, r = Flow_residual.mk g.Supply.length g.Arcs.length (toL (arcsOf g)) (leftL (arcsOf g)) (costL (arcsOf g)) fr (g.Supply ++ [0]) (List.replicate (g.Supply.length + 1) 0) ∧ FR g.Supply.length (arcsOf g) fr) := by
  have n1 := V.n1
  have n2 := V.n2
  have m := V.m
  unfold flow_newResidual_m
  have m1 : mk (α := List Int) ([] : List Int) ((g.Supply.length : Int) + 1) = some (List.replicate (g.Supply.length + 1) []) := by
    unfold mk; rw [if_pos]
    · congr 1
    · exact ⟨by omega, by show ((g.Supply.length : Int) + 1) * 24 ≤ _; omega⟩
  have m2 : mk (α := Int) 0 ((g.Supply.length : Int) + 1) = some (List.replicate (g.Supply.length + 1) 0) := by
    unfold mk; rw [if_pos]
    · congr 1
    · exact ⟨by omega, by show ((g.Supply.length : Int) + 1) * 8 ≤ _; omega⟩
  rw [m1, m2]
  simp only [Option.bind_some]
  refine wp_i64 (by omega) (wp_i64 (by omega) ?_)
  simp only [flow_newResidual_k1]
  refine wp_iter (fun (t : List Int × List Int × List Int × List (List Int) × Nat) => t.2.2.2.2 ≤ g.Arcs.length ∧ t.1 = toL (g.Arcs.take t.2.2.2.2) ∧ t.2.1 = leftL (g.Arcs.take t.2.2.2.2) ∧ t.2.2.1 = costL (g.Arcs.take t.2.2.2.2) ∧ FR g.Supply.length (g.Arcs.take t.2.2.2.2) t.2.2.2.1)
    (fun t => 2000 - t.2.2.2.2) _ ?_ FUEL _ ⟨by simp, by simp [toL, flat2], by simp [leftL, flat2], by simp [costL, flat2], ?_⟩ (fuel_of (by simp only; omega))
  · rintro c ⟨to, left, cost, fr, t⟩ ⟨ht, e1, e2, e3, F⟩ hc
    simp only at ht e1 e2 e3 F hc
    subst e1 e2 e3
    simp only [flow_newResidual_b1]
    refine wp_ite (fun h => ?_) (fun h => ?_)
    · simp only [decide_eq_true_eq] at h
      have hlt : t < g.Arcs.length := by omega
      obtain ⟨v1, v2, v3, v4, v5, v6, v7, v8, v9⟩ := V.arc g.Arcs[t] (List.getElem_mem hlt)
      refine wp_idx (x := g.Arcs[t]) (by omega) (by simp [hlt]) ?_
      refine wp_bind _ (add_wp F g.Arcs[t] (by simp only [List.length_take]; omega) v1 (by omega) v3 (by omega) v5 (by omega) (by omega) _ _ _ _) ?_
      rintro z ⟨fr', rfl, F'⟩
      have e : g.Arcs.take t ++ [g.Arcs[t]] = g.Arcs.take (t + 1) := (List.take_succ_eq_append_getElem hlt).symm
      rw [e] at F'
      simp only [e]
      exact hc _ ⟨by simp only; omega, rfl, rfl, rfl, F'⟩ (by simp only; omega)
    · simp only [decide_eq_false_iff_not] at h
      obtain rfl : t = g.Arcs.length := by omega
      rw [List.take_length] at *
      simp only [flow_newResidual_k2]
      refine wp_iter (fun (t : List Int × List Int × List Int × List (List Int) × List Int × Nat) => t.2.2.2.2.2 ≤ g.Supply.length ∧ t.1 = toL (g.Arcs ++ arts g.Supply.length t.2.2.2.2.2) ∧ t.2.1 = leftL (g.Arcs ++ arts g.Supply.length t.2.2.2.2.2) ∧
          t.2.2.1 = costL (g.Arcs ++ arts g.Supply.length t.2.2.2.2.2) ∧ FR g.Supply.length (g.Arcs ++ arts g.Supply.length t.2.2.2.2.2) t.2.2.2.1 ∧ t.2.2.2.2.1 = g.Supply.take t.2.2.2.2.2)
        (fun t => 200 - t.2.2.2.2.2) _ ?_ FUEL _ ⟨by simp, by simp [arts], by simp [arts], by simp [arts], by simpa [arts] using F, by simp⟩ (fuel_of (by simp only; omega))
      rintro c2 ⟨to, left, cost, fr2, ex, t⟩ ⟨ht, e1, e2, e3, F2, e4⟩ hc2
      simp only at ht e1 e2 e3 F2 e4 hc2
      subst e1 e2 e3 e4
      simp only [flow_newResidual_b2]
      refine wp_ite (fun h => ?_) (fun h => ?_)
      · simp only [decide_eq_true_eq] at h
        have hlt : t < g.Supply.length := by omega
        have al := arts_len g.Supply.length t
        refine wp_idx (x := g.Supply[t]) (by omega) (by simp [hlt]) ?_
        refine wp_bind _ (add_wp F2 ⟨t, g.Supply.length, 1099511627776, 201326592⟩ (by simp only [List.length_append]; omega) (by simp only; omega) (by simp only; omega) (by simp only; omega) (by simp only; omega) (by simp only; omega) (by simp only; omega) (by simp only; omega) _ _ _ _) ?_
        rintro z ⟨fr', rfl, F'⟩
        simp only
        refine wp_bind _ (add_wp F' ⟨g.Supply.length, t, 1099511627776, 201326592⟩ (by simp only [List.length_append, List.length_singleton]; omega) (by simp only; omega) (by simp only; omega) (by simp only; omega) (by simp only; omega) (by simp only; omega) (by simp only; omega) (by simp only; omega) _ _ _ _) ?_
        rintro z ⟨fr'', rfl, F''⟩
        have e : (g.Arcs ++ arts g.Supply.length t) ++ [⟨t, g.Supply.length, 1099511627776, 201326592⟩] ++ [⟨g.Supply.length, t, 1099511627776, 201326592⟩] = g.Arcs ++ arts g.Supply.length (t + 1) := by simp [arts]
        rw [e] at F''
        simp only [e]
        have e2 : g.Supply.take t ++ [g.Supply[t]] = g.Supply.take (t + 1) := (List.take_succ_eq_append_getElem hlt).symm
        refine wp_chk (by simp; omega) ?_
        rw [e2]
        exact hc2 _ ⟨by simp only; omega, rfl, rfl, rfl, F'', rfl⟩ (by simp only; omega)
      · simp only [decide_eq_false_iff_not] at h
        obtain rfl : t = g.Supply.length := by omega
        rw [List.take_length]
        simp only [flow_newResidual_k3]
        refine wp_chk (by simp; omega) (wp_some ⟨fr2, rfl, F2⟩)
  · have gn : ∀ v : Int, gll (List.replicate (g.Supply.length + 1) []) v = [] := fun v => by
      unfold gll; simp [List.getElem?_replicate]; split <;> simp
    refine ⟨by simp, ?_, ?_, ?_⟩
    · intro v _ _ h hm; rw [gn v] at hm; cases hm
    · intro h h0 h1; simp at h1; omega
    · intro v _ _; rw [gn v]; simp

theorem st_of (g : Graph) (V : Valid g) {fr : List (List Int)} (F : FR g.Supply.length (arcsOf g) fr) : St g.Supply.length g.Arcs.length (arcsOf g) fr := by
  have n1 := V.n1
  have n2 := V.n2
  have m := V.m
  have al := arts_len g.Supply.length g.Supply.length
  have le : (arcsOf g).length = g.Arcs.length + 2 * g.Supply.length := by unfold arcsOf; rw [List.length_append, al]
  have net : ∀ i : Int, 0 ≤ i → i < g.Arcs.length → ar (arcsOf g) i ∈ g.Arcs := fun i i0 i1 => by
    unfold arcsOf; rw [ar_app1 _ _ i0 i1]; exact ar_mem i0 i1
  have art1 : ∀ v : Int, 0 ≤ v → v < g.Supply.length → ar (arcsOf g) (g.Arcs.length + 2 * v) = ⟨v, g.Supply.length, 1099511627776, 201326592⟩ := fun v v0 v1 => by
    unfold arcsOf; rw [ar_app2 _ _ (by omega)]
    obtain ⟨k, rfl⟩ : ∃ k : Nat, v = k := ⟨v.toNat, by omega⟩
    have := (arts_get g.Supply.length g.Supply.length k (by omega)).1
    exact ar_get (by rw [← this]; congr 1; omega)
  have art2 : ∀ v : Int, 0 ≤ v → v < g.Supply.length → ar (arcsOf g) (g.Arcs.length + 2 * v + 1) = ⟨g.Supply.length, v, 1099511627776, 201326592⟩ := fun v v0 v1 => by
    unfold arcsOf; rw [ar_app2 _ _ (by omega)]
    obtain ⟨k, rfl⟩ : ∃ k : Nat, v = k := ⟨v.toNat, by omega⟩
    have := (arts_get g.Supply.length g.Supply.length k (by omega)).2
    exact ar_get (by rw [← this]; congr 1; omega)
  refine ⟨by omega, by omega, by omega, by omega, by omega, ?_, ?_, art1, art2, F.lf, F.frm, fun h h0 h1 => (F.fra h h0 h1).2.2⟩
  · intro i i0 i1
    by_cases e : i < g.Arcs.length
    · obtain ⟨v1, v2, v3, v4, v5, v6, v7, v8, v9⟩ := V.arc _ (net i i0 e)
      exact ⟨v1, by omega, v3, by omega, v5, v6, by omega, by omega, by omega⟩
    · by_cases e2 : (i - g.Arcs.length) % 2 = 0
      · have := art1 ((i - g.Arcs.length) / 2) (by omega) (by omega)
        rw [show (g.Arcs.length : Int) + 2 * ((i - g.Arcs.length) / 2) = i by omega] at this
        rw [this]; simp only; omega
      · have := art2 ((i - g.Arcs.length) / 2) (by omega) (by omega)
        rw [show (g.Arcs.length : Int) + 2 * ((i - g.Arcs.length) / 2) + 1 = i by omega] at this
        rw [this]; simp only; omega
  · intro i i0 i1
    obtain ⟨v1, v2, v3, v4, v5, v6, v7, v8, v9⟩ := V.arc _ (net i i0 i1)
    exact ⟨v2, v4, v7, v8, v9⟩

theorem sumTo_gi : ∀ (l : List Int), sumTo (gi l) l.length = l.sum := by
  intro l
  have : ∀ n, n ≤ l.length → sumTo (gi l) n = (l.take n).sum := by
    intro n
    induction n with
    | zero => intro _; simp [sumTo]
    | succ n ih =>
      intro h
      rw [sumTo, ih (by omega), List.take_succ_eq_append_getElem (by omega : n < l.length), List.sum_append]
      simp [gi, (by omega : n < l.length)]
  rw [this _ (Nat.le_refl _), List.take_length]

theorem pi_of (g : Graph) (V : Valid g) {fr : List (List Int)} (s : St g.Supply.length g.Arcs.length (arcsOf g) fr) :
    PI g.Supply.length g.Arcs.length (arcsOf g) (g.Supply ++ [0]) (leftL (arcsOf g)) (g.Supply ++ [0]) (List.replicate (g.Supply.length + 1) 0) 4194304 0 := by
  have n1 := V.n1
  have n2 := V.n2
  have gz : ∀ v : Int, gi (List.replicate (g.Supply.length + 1) 0) v = 0 := fun v => by
    unfold gi; simp [List.getElem?_replicate]; split <;> simp
  have rz : ∀ h, red (arcsOf g) (List.replicate (g.Supply.length + 1) 0) h = gi (costL (arcsOf g)) h := fun h => by
    unfold red; rw [gz, gz]; omega
  have le : ∀ h : Int, 0 ≤ h → h < 2 * ((arcsOf g).length : Int) → h % 2 = 0 → gi (leftL (arcsOf g)) h = (ar (arcsOf g) (h / 2)).Cap := fun h h0 h1 e => by
    unfold leftL; rw [flat2_even _ _ _ _ h0 h1 e]
  have lo : ∀ h : Int, 0 ≤ h → h < 2 * ((arcsOf g).length : Int) → h % 2 ≠ 0 → gi (leftL (arcsOf g)) h = 0 := fun h h0 h1 e => by
    unfold leftL; rw [flat2_odd _ _ _ _ h0 h1 e]
  have sb : ∀ v : Int, 0 ≤ v → v ≤ g.Supply.length → -1048577 < gi (g.Supply ++ [0]) v ∧ gi (g.Supply ++ [0]) v < 1048577 := fun v v0 v1 => by
    by_cases e : v < g.Supply.length
    · rw [gi_app1 _ _ v0 e]
      have := V.sup _ (gi_mem v0 e)
      omega
    · rw [gi_app2 _ _ (by omega), show v - g.Supply.length = 0 by omega]
      show -1048577 < 0 ∧ (0 : Int) < 1048577
      omega
  have tot : sumTo (gi (g.Supply ++ [0])) ((g.Supply.length : Int) + 1).toNat = 0 := by
    have := sumTo_gi (g.Supply ++ [0])
    rw [List.sum_append, V.sum] at this
    rw [show ((g.Supply.length : Int) + 1).toNat = (g.Supply ++ [0]).length by simp, this]; rfl
  have hp := pos_le (n := g.Supply.length) (p := 1048577) (by omega) (by omega) (by omega) tot (Or.inl fun v v0 v1 => (sb v v0 v1).2)
  refine ⟨⟨leftL_len _, by simp, by simp, ?_, ?_, ?_, tot⟩, by omega, by omega, ?_, Or.inl fun v v0 v1 => by have := sb v v0 v1; omega, ?_, fun v _ _ => by rw [gz]; omega⟩
  · intro h h0 h1
    by_cases e : h % 2 = 0
    · rw [le h h0 h1 e]
      obtain ⟨_, _, _, _, _, c, _⟩ := s.rng (h / 2) (by omega) (by omega)
      exact c
    · rw [lo h h0 h1 e]; omega
  · intro h h0 h1
    have hx := xr_rng h0 h1
    by_cases e : h % 2 = 0
    · rw [le h h0 h1 e, lo _ hx.1 hx.2 (by unfold xr; split <;> omega)]; omega
    · rw [lo h h0 h1 e, le _ hx.1 hx.2 (by unfold xr; split <;> omega), xr_div]; omega
  · intro v v0 v1
    have : outf (arcsOf g) (leftL (arcsOf g)) v = 0 := by
      unfold outf
      refine sumTo_zero (fun i i0 i1 => ?_)
      rw [lo (2 * i + 1) (by omega) (by omega) (by omega)]; omega
    omega
  · intro h h0 h1 hu
    rw [rz]
    by_cases e : h % 2 = 0
    · rw [le h h0 h1 e] at hu
      by_cases e2 : h / 2 < g.Arcs.length
      · obtain ⟨_, _, c, _⟩ := s.net (h / 2) (by omega) e2
        omega
      · unfold costL; rw [flat2_even _ _ _ _ h0 h1 e]
        have len := s.len
        by_cases e3 : (h / 2 - g.Arcs.length) % 2 = 0
        · have := s.art1 ((h / 2 - g.Arcs.length) / 2) (by omega) (by omega)
          rw [show (g.Arcs.length : Int) + 2 * ((h / 2 - g.Arcs.length) / 2) = h / 2 by omega] at this
          rw [this]; simp only; omega
        · have := s.art2 ((h / 2 - g.Arcs.length) / 2) (by omega) (by omega)
          rw [show (g.Arcs.length : Int) + 2 * ((h / 2 - g.Arcs.length) / 2) + 1 = h / 2 by omega] at this
          rw [this]; simp only; omega
    · rw [lo h h0 h1 e] at hu; omega
  · intro h hf
    obtain ⟨h0, h1, _⟩ := s.fwd hf
    have hx := xr_rng h0 h1
    have he : h % 2 = 0 := by obtain ⟨v, _, _, e⟩ := hf; omega
    rw [lo _ hx.1 hx.2 (by unfold xr; split <;> omega)]
    omega
end Go.Proofs.Ytedocibniankjaa

/- Plain laws of chapter 27: Verify and feasible flows by number. -/
import Derived.Test.YtedocibniankjaaQ7
import Derived.Test.YtedocibniankjaaPc
namespace Go.Proofs.Ytedocibniankjaa
open Go.Dc

theorem zip_at {g : Graph} {X : List Int} (hX : X.length = g.Arcs.length) {i : Nat} (h : i < g.Arcs.length) : (g.Arcs.zip X)[i]? = some (ar g.Arcs i, gi X i) := by
  have h2 : i < X.length := by omega
  have e1 : ar g.Arcs i = g.Arcs[i] := ar_get (by simp [h])
  have e2 : gi X i = X[i] := by unfold gi; simp [h2]
  rw [e1, e2]
  simp [List.getElem?_zip_eq_some, h, h2]

theorem all_zip {g : Graph} {X : List Int} (hX : X.length = g.Arcs.length) (p : Arc × Int → Bool) : (g.Arcs.zip X).all p = true ↔ ∀ i : Int, 0 ≤ i → i < g.Arcs.length → p (ar g.Arcs i, gi X i) = true := by
  rw [List.all_eq_true]
  constructor
  · intro h i i0 i1
    have := zip_at hX (i := i.toNat) (by omega)
    rw [show ((i.toNat : Nat) : Int) = i by omega] at this
    exact h _ (List.mem_of_getElem? this)
  · intro h z hz
    obtain ⟨i, hi, e⟩ := List.mem_iff_getElem.1 hz
    have hl : i < g.Arcs.length := by have := zip_len (xs := g.Arcs) (ys := X) hX; omega
    have := zip_at hX hl
    rw [List.getElem?_eq_getElem hi, e] at this
    obtain rfl := Option.some.inj this
    exact h i (by omega) (by omega)

theorem sum_list {α : Type} (f : α → Int) (d : α) : ∀ zs : List α, (zs.map f).sum = sumTo (fun i => f (zs.getD i.toNat d)) zs.length := by
  intro zs
  have : ∀ n, n ≤ zs.length → sumTo (fun i => f (zs.getD i.toNat d)) n = ((zs.take n).map f).sum := by
    intro n
    induction n with
    | zero => intro _; simp [sumTo]
    | succ n ih =>
      intro h
      rw [sumTo, ih (by omega), List.take_succ_eq_append_getElem (by omega : n < zs.length), List.map_append, List.sum_append]
      simp [(by omega : n < zs.length)]
  rw [this _ (Nat.le_refl _), List.take_length]

theorem sum_zip {g : Graph} {X : List Int} (hX : X.length = g.Arcs.length) (f : Arc × Int → Int) : ((g.Arcs.zip X).map f).sum = sumTo (fun i => f (ar g.Arcs i, gi X i)) g.Arcs.length := by
  rw [sum_list f (default, 0), zip_len hX]
  refine sumTo_congr (fun i i0 i1 => ?_)
  have := zip_at hX (i := i.toNat) (by omega)
  rw [show ((i.toNat : Nat) : Int) = i by omega] at this
  rw [List.getD_eq_getElem?_getD, this]; rfl

theorem foldO_get (n : Nat) : ∀ (zs : List (Arc × Int)) (o : List Int), Arcs n zs → o.length = n → ∀ v,
    (foldO zs o).getD v 0 = o.getD v 0 + (zs.map (fun z => z.2 * ((if z.1.From.toNat = v then 1 else 0) - (if z.1.To.toNat = v then 1 else 0)))).sum
  | [], o, _, _, v => by simp [foldO]
  | z :: zs, o, ha, ho, v => by
    obtain ⟨h1, h2, h3⟩ := ha z (by simp)
    show (foldO zs (updO o z.1 z.2)).getD v 0 = _
    rw [foldO_get n zs _ (fun z hz => ha z (by simp [hz])) (by rw [updO_len]; exact ho), updO_get _ _ _ (by omega) (by omega) h3, List.map_cons, List.sum_cons]
    by_cases c1 : v = z.1.From.toNat
    · have c2 : v ≠ z.1.To.toNat := fun e => h3 (c1.symm.trans e)
      rw [if_pos c1, if_neg c2, if_pos c1.symm, if_neg (Ne.symm c2)]; omega
    · by_cases c2 : v = z.1.To.toNat
      · rw [if_neg c1, if_pos c2, if_neg (Ne.symm c1), if_pos c2.symm]; omega
      · rw [if_neg c1, if_neg c2, if_neg (Ne.symm c1), if_neg (Ne.symm c2)]; omega

theorem zip_arcs {g : Graph} (V : Valid g) (X : List Int) : Arcs g.Supply.length (g.Arcs.zip X) := fun z hz => by
  obtain ⟨v1, v2, v3, v4, v5, _⟩ := V.arc z.1 (List.of_mem_zip hz).1
  omega

theorem foldO_iff {g : Graph} (V : Valid g) {X : List Int} (hX : X.length = g.Arcs.length) : foldO (g.Arcs.zip X) (List.replicate g.Supply.length 0) = g.Supply ↔ ∀ v : Int, 0 ≤ v → v < g.Supply.length → netf g X v = gi g.Supply v := by
  have key : ∀ v : Int, 0 ≤ v → v < g.Supply.length → (foldO (g.Arcs.zip X) (List.replicate g.Supply.length 0)).getD v.toNat 0 = netf g X v := by
    intro v v0 v1
    rw [foldO_get _ _ _ (zip_arcs V X) (by simp), sum_zip hX]
    have : (List.replicate g.Supply.length (0 : Int)).getD v.toNat 0 = 0 := by
      simp [List.getElem?_replicate]; split <;> simp
    rw [this, Int.zero_add]
    unfold netf
    refine sumTo_congr (fun i i0 i1 => ?_)
    obtain ⟨a1, a2, a3, a4, _⟩ := V.arc _ (ar_mem i0 i1)
    simp only
    have e1 : ((ar g.Arcs i).From.toNat = v.toNat) = ((ar g.Arcs i).From = v) := propext ⟨fun h => by omega, fun h => by omega⟩
    have e2 : ((ar g.Arcs i).To.toNat = v.toNat) = ((ar g.Arcs i).To = v) := propext ⟨fun h => by omega, fun h => by omega⟩
    simp only [e1, e2]
  constructor
  · intro h v v0 v1
    rw [← key v v0 v1, h]; rfl
  · intro h
    refine ext_getD (by rw [foldO_len]; simp) (fun v => ?_)
    by_cases hv : v < g.Supply.length
    · have := key v (by omega) (by omega)
      rw [show ((v : Nat) : Int).toNat = v by omega] at this
      rw [this, h v (by omega) (by omega)]; rfl
    · have h1 : (foldO (g.Arcs.zip X) (List.replicate g.Supply.length 0)).length ≤ v := by rw [foldO_len]; simp; omega
      rw [List.getD_eq_getElem?_getD, List.getD_eq_getElem?_getD, List.getElem?_eq_none h1, List.getElem?_eq_none (by omega)]

theorem xB_iff {a : Arc} {x : Int} : xB a x = true ↔ 0 ≤ x ∧ x ≤ a.Cap := by
  simp only [xB, Bool.not_eq_true', Bool.or_eq_false_iff, decide_eq_false_iff_not]; omega

theorem costI_eq {g : Graph} {X : List Int} (hX : X.length = g.Arcs.length) : costI (g.Arcs.zip X) = costS g X := by
  unfold costI costS; rw [sum_zip hX]

theorem feasM {g : Graph} (V : Valid g) (X : List Int) : ∃ b, ref24_FeasibleFlow_m g X = some b ∧ (b = true ↔ Feas g X) := by
  refine ⟨_, feasible_m g X V, ?_⟩
  rw [Bool.and_eq_true, Bool.and_eq_true, decide_eq_true_eq]
  constructor
  · rintro ⟨h1, h2, h3⟩
    rw [all_zip h1] at h2
    rw [zero_iff g X V, foldO_iff V h1] at h3
    exact ⟨h1, fun i i0 i1 => xB_iff.1 (h2 i i0 i1), h3⟩
  · rintro ⟨h1, h2, h3⟩
    rw [all_zip h1, zero_iff g X V, foldO_iff V h1]
    exact ⟨h1, fun i i0 i1 => xB_iff.2 (h2 i i0 i1), h3⟩

theorem costM {g : Graph} (V : Valid g) {X : List Int} (F : Feas g X) : ref24_FlowCost_m g X = some (costS g X) := by
  rw [cost_m g X V F.len ((all_zip F.len _).2 (fun i i0 i1 => xB_iff.2 (F.rng i i0 i1))), costI_eq F.len]

theorem Opt.verify {g : Graph} (V : Valid g) {f : Flow} (o : Opt g f) : verifyB g f = true := by
  unfold verifyB
  have hX := o.feas.len
  rw [(valid_iff g).2 V, (foldO_iff V hX).2 o.feas.con, costI_eq hX, o.cost]
  have h1 : f.Price.all priceB = true := by
    rw [List.all_eq_true]
    intro x hx
    obtain ⟨j, hj, e⟩ := mem_gi hx
    have := o.pb j (by omega) (by rw [← o.lp]; omega)
    rw [e] at this
    simp [priceB]; omega
  have h2 : (g.Arcs.zip f.X).all (fun z => xB z.1 z.2 && redB f.Price z.1 z.2) = true := by
    rw [all_zip hX]
    intro i i0 i1
    rw [Bool.and_eq_true]
    refine ⟨xB_iff.2 (o.feas.rng i i0 i1), ?_⟩
    obtain ⟨r1, r2⟩ := o.red i i0 i1
    unfold rc gi at r1 r2
    simp only [redB, Bool.not_eq_true', Bool.or_eq_false_iff, Bool.and_eq_false_iff, decide_eq_false_iff_not]
    unfold gi
    constructor
    · by_cases c : f.X.getD i.toNat 0 < (ar g.Arcs i).Cap
      · right; have := r1 c; omega
      · left; exact c
    · by_cases c : 0 < f.X.getD i.toNat 0
      · right; have := r2 c; omega
      · left; exact c
  rw [h1, h2]
  simp [hX, o.lp]

theorem feas_of_verify {g : Graph} {f : Flow} (h : verifyB g f = true) : Valid g ∧ Feas g f.X ∧ f.Cost = costS g f.X := by
  unfold verifyB at h
  simp only [Bool.and_eq_true, decide_eq_true_eq] at h
  obtain ⟨h1, h2, h3, h4, h5, h6, h7⟩ := h
  have V := (valid_iff g).1 h1
  rw [all_zip h2] at h5
  refine ⟨V, ⟨h2, fun i i0 i1 => ?_, (foldO_iff V h2).1 h6⟩, ?_⟩
  · have := h5 i i0 i1
    rw [Bool.and_eq_true] at this
    exact xB_iff.1 this.1
  · rw [← h7, costI_eq h2]
end Go.Proofs.Ytedocibniankjaa

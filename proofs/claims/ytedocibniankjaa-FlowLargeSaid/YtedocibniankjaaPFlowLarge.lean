/- FlowLarge, the plain law. -/
import Derived.Test.YtedocibniankjaaQb
import Derived.Test.YtedocibniankjaaWFlowLarge
namespace Go.Proofs.Ytedocibniankjaa
open Go.Dc

/-- A row of nodes with two arcs between neighbours. -/
def rowA (s x y : Int) : Nat → List Arc
  | 0 => []
  | i + 1 => rowA s x y i ++ [Arc.mk (i : Int) ((i : Int) + 1) (s / 2) x, Arc.mk (i : Int) ((i : Int) + 1) s y]
theorem rowA_len (s x y : Int) : ∀ m, (rowA s x y m).length = 2 * m
  | 0 => rfl
  | m + 1 => by simp only [rowA, List.length_append, List.length_cons, List.length_nil, rowA_len s x y m]; omega
theorem rowA_get (s x y : Int) : ∀ (m i : Nat), i < m → (rowA s x y m)[2 * i]? = some (Arc.mk (i : Int) ((i : Int) + 1) (s / 2) x) ∧ (rowA s x y m)[2 * i + 1]? = some (Arc.mk (i : Int) ((i : Int) + 1) s y)
  | 0, i, h => by omega
  | m + 1, i, h => by
    have hl := rowA_len s x y m
    simp only [rowA]
    by_cases e : i = m
    · subst e
      constructor
      · rw [List.getElem?_append_right (by omega), hl]; simp
      · rw [List.getElem?_append_right (by omega), hl, show 2 * i + 1 - 2 * i = 1 by omega]; simp
    · have := rowA_get s x y m i (by omega)
      rw [List.getElem?_append_left (by omega), List.getElem?_append_left (by omega)]
      exact this
theorem rowA_ar (s x y : Int) (m : Nat) {i : Int} (i0 : 0 ≤ i) (i1 : i < m) : ar (rowA s x y m) (2 * i) = Arc.mk i (i + 1) (s / 2) x ∧ ar (rowA s x y m) (2 * i + 1) = Arc.mk i (i + 1) s y := by
  obtain ⟨k, rfl⟩ : ∃ k : Nat, i = k := ⟨i.toNat, by omega⟩
  obtain ⟨a, b⟩ := rowA_get s x y m k (by omega)
  exact ⟨ar_get (by rw [← a]; congr 1), ar_get (by rw [← b]; congr 1)⟩

theorem sum_pairs (f : Int → Int) : ∀ m : Nat, sumTo f (2 * m) = sumTo (fun i => f (2 * i) + f (2 * i + 1)) m
  | 0 => rfl
  | m + 1 => by
    rw [show 2 * (m + 1) = 2 * m + 1 + 1 by omega, sumTo, sumTo, sum_pairs f m, sumTo]
    have e1 : ((2 * m : Nat) : Int) = 2 * (m : Int) := by omega
    have e2 : ((2 * m + 1 : Nat) : Int) = 2 * (m : Int) + 1 := by omega
    rw [e1, e2]; omega

def rowX (a b : Int) : Nat → List Int
  | 0 => []
  | i + 1 => rowX a b i ++ [a, b]
theorem rowX_len (a b : Int) : ∀ m, (rowX a b m).length = 2 * m
  | 0 => rfl
  | m + 1 => by simp only [rowX, List.length_append, List.length_cons, List.length_nil, rowX_len a b m]; omega
theorem rowX_get (a b : Int) : ∀ (m i : Nat), i < m → (rowX a b m)[2 * i]? = some a ∧ (rowX a b m)[2 * i + 1]? = some b
  | 0, i, h => by omega
  | m + 1, i, h => by
    have hl := rowX_len a b m
    simp only [rowX]
    by_cases e : i = m
    · subst e
      constructor
      · rw [List.getElem?_append_right (by omega), hl]; simp
      · rw [List.getElem?_append_right (by omega), hl, show 2 * i + 1 - 2 * i = 1 by omega]; simp
    · have := rowX_get a b m i (by omega)
      rw [List.getElem?_append_left (by omega), List.getElem?_append_left (by omega)]
      exact this
theorem rowX_gi (a b : Int) (m : Nat) {i : Int} (i0 : 0 ≤ i) (i1 : i < m) : gi (rowX a b m) (2 * i) = a ∧ gi (rowX a b m) (2 * i + 1) = b := by
  obtain ⟨k, rfl⟩ : ∃ k : Nat, i = k := ⟨i.toNat, by omega⟩
  obtain ⟨h1, h2⟩ := rowX_get a b m k (by omega)
  unfold gi
  have e1 : (2 * (k : Int)).toNat = 2 * k := by omega
  have e2 : (2 * (k : Int) + 1).toNat = 2 * k + 1 := by omega
  rw [e1, e2]
  simp [h1, h2]

def rowS (s : Int) (m : Nat) : List Int := ((List.replicate (m + 1) 0).set (0 : Int).toNat s).set (m : Int).toNat (-s)

theorem rowS_gi (s : Int) {m : Nat} (hm : 1 ≤ m) {v : Int} (v0 : 0 ≤ v) (v1 : v ≤ m) : gi (rowS s m) v = if v = m then -s else if v = 0 then s else 0 := by
  unfold rowS
  rw [gi_set _ _ _ _ (by omega) v0 (by simp <;> omega), gi_set _ _ _ _ (by omega) v0 (by simp <;> omega), gi_rep _ _ _ v0 (by omega)]

theorem row_valid {s x y : Int} {m : Nat} (hm : 1 ≤ m) (hm2 : m ≤ 95) (s0 : 0 ≤ s) (s1 : s < 1048576) (x0 : 0 ≤ x) (x1 : x < 1000) (y0 : 0 ≤ y) (y1 : y < 1000) : Valid (Graph.mk (rowS s m) (rowA s x y m)) := by
  have ls : (rowS s m).length = m + 1 := by simp [rowS]
  have la := rowA_len s x y m
  refine ⟨by simp only; omega, by simp only; omega, by simp only; omega, ?_, ?_, ?_⟩
  · intro z hz
    obtain ⟨j, hj, e⟩ := mem_gi hz
    simp only at hj e
    rw [rowS_gi s hm (by omega) (by omega)] at e
    subst e
    split
    · omega
    · split <;> omega
  · intro a ha
    obtain ⟨j, hj, e⟩ := List.mem_iff_getElem.1 ha
    simp only at hj e ⊢
    have h := rowA_get s x y m (j / 2) (by omega)
    by_cases ej : j % 2 = 0
    · have : (rowA s x y m)[j]? = some (Arc.mk ((j / 2 : Nat) : Int) (((j / 2 : Nat) : Int) + 1) (s / 2) x) := by rw [← h.1]; congr 1; omega
      rw [List.getElem?_eq_getElem hj, e] at this
      obtain rfl := Option.some.inj this
      simp only
      omega
    · have : (rowA s x y m)[j]? = some (Arc.mk ((j / 2 : Nat) : Int) (((j / 2 : Nat) : Int) + 1) s y) := by rw [← h.2]; congr 1; omega
      rw [List.getElem?_eq_getElem hj, e] at this
      obtain rfl := Option.some.inj this
      simp only
      omega
  · simp only
    unfold rowS
    rw [sum_set _ _ (by omega) (by simp <;> omega), sum_set _ _ (by omega) (by simp <;> omega), gi_set _ _ _ _ (by omega) (by omega) (by simp <;> omega), if_neg (by omega), gi_rep _ _ _ (by omega) (by omega), gi_rep _ _ _ (by omega) (by omega)]
    simp [List.sum_replicate_int]
    omega

theorem row_opt {s x y a b : Int} {m : Nat} (hm : 1 ≤ m) (hm2 : m ≤ 95) (y0 : 0 ≤ y) (y1 : y < 1000) (hab : a + b = s) (a0 : 0 ≤ a) (b0 : 0 ≤ b) (ha : a ≤ s / 2) (hc : (x < y ∧ a = s / 2) ∨ (y ≤ x ∧ a = 0)) :
    Opt (Graph.mk (rowS s m) (rowA s x y m)) (Flow.mk (rowX a b m) ((List.range (m + 1)).map (fun i : Nat => (i : Int) * y)) ((a * x + b * y) * m)) := by
  have ls : (rowS s m).length = m + 1 := by simp [rowS]
  have la := rowA_len s x y m
  have lx := rowX_len a b m
  have gp : ∀ v : Int, 0 ≤ v → v ≤ m → gi ((List.range (m + 1)).map (fun i : Nat => (i : Int) * y)) v = v * y := fun v v0 v1 => by
    have h : v.toNat < m + 1 := by omega
    unfold gi
    simp [h]
    rw [show max v 0 = v by omega]
  have half : ∀ (P : Int → Prop), (∀ i : Int, 0 ≤ i → i < m → P (2 * i) ∧ P (2 * i + 1)) → ∀ j : Int, 0 ≤ j → j < 2 * (m : Int) → P j := by
    intro P h j j0 j1
    have := h (j / 2) (by omega) (by omega)
    by_cases e : j % 2 = 0
    · rw [show j = 2 * (j / 2) by omega]; exact this.1
    · rw [show j = 2 * (j / 2) + 1 by omega]; exact this.2
  refine ⟨⟨by simp only; omega, ?_, ?_⟩, ?_, by simp only [List.length_map, List.length_range]; omega, ?_, ?_⟩
  · simp only
    rw [la]
    have := half (fun j => 0 ≤ gi (rowX a b m) j ∧ gi (rowX a b m) j ≤ (ar (rowA s x y m) j).Cap) (fun i i0 i1 => by
      obtain ⟨h1, h2⟩ := rowX_gi a b m i0 i1
      obtain ⟨h3, h4⟩ := rowA_ar s x y m i0 i1
      rw [h1, h2, h3, h4]; simp only; omega)
    exact fun j j0 j1 => this j j0 (by omega)
  · intro v v0 v1
    simp only at v1 ⊢
    rw [ls] at v1
    unfold netf
    simp only
    rw [la, sum_pairs]
    rw [sumTo_congr (g := fun i => (if i = v then s else 0) - (if i = v - 1 then s else 0)) (fun i i0 i1 => ?_)]
    · rw [sumTo_sub, rowS_gi s hm v0 (by omega)]
      have z : ∀ w : Int, (w < 0 ∨ (m : Int) ≤ w) → sumTo (fun i => if i = w then s else 0) m = 0 := fun w hw => sumTo_zero (fun i i0 i1 => by rw [if_neg (by omega)])
      have o : ∀ w : Int, 0 ≤ w → w < m → sumTo (fun i => if i = w then s else 0) m = s := fun w w0 w1 => sumTo_ind w (fun _ => s) m w0 w1
      by_cases e1 : v = m
      · rw [if_pos e1, z v (by omega), o (v - 1) (by omega) (by omega)]; omega
      · rw [if_neg e1, o v v0 (by omega)]
        by_cases e2 : v = 0
        · rw [if_pos e2, z (v - 1) (by omega)]; omega
        · rw [if_neg e2, o (v - 1) (by omega) (by omega)]; omega
    · obtain ⟨h1, h2⟩ := rowX_gi a b m i0 i1
      obtain ⟨h3, h4⟩ := rowA_ar s x y m i0 i1
      rw [h1, h2, h3, h4]
      simp only
      by_cases e1 : i = v
      · rw [if_pos e1, if_neg (by omega), if_pos e1, if_neg (by omega)]; omega
      · by_cases e2 : i = v - 1
        · rw [if_neg e1, if_pos (by omega), if_neg e1, if_pos e2]; omega
        · rw [if_neg e1, if_neg (by omega), if_neg e1, if_neg e2]; omega
  · simp only
    unfold costS
    simp only
    rw [la, sum_pairs, sumTo_congr (g := fun _ => a * x + b * y) (fun i i0 i1 => ?_), sumTo_const, Int.mul_comm]
    obtain ⟨h1, h2⟩ := rowX_gi a b m i0 i1
    obtain ⟨h3, h4⟩ := rowA_ar s x y m i0 i1
    rw [h1, h2, h3, h4]
  · intro v v0 v1
    simp only at v1 ⊢
    rw [gp v v0 (by omega)]
    have h1 : v * y ≤ v * 1000 := Int.mul_le_mul_of_nonneg_left (by omega) v0
    have h2 : 0 ≤ v * y := Int.mul_nonneg v0 y0
    omega
  · simp only
    rw [la]
    have := half (fun j => (gi (rowX a b m) j < (ar (rowA s x y m) j).Cap → 0 ≤ rc (Graph.mk (rowS s m) (rowA s x y m)) ((List.range (m + 1)).map (fun i : Nat => (i : Int) * y)) j) ∧ (0 < gi (rowX a b m) j → rc (Graph.mk (rowS s m) (rowA s x y m)) ((List.range (m + 1)).map (fun i : Nat => (i : Int) * y)) j ≤ 0)) (fun i i0 i1 => by
      obtain ⟨h1, h2⟩ := rowX_gi a b m i0 i1
      obtain ⟨h3, h4⟩ := rowA_ar s x y m i0 i1
      have m1 : (i + 1) * y = i * y + y := by rw [Int.add_mul]; omega
      have r1 : rc (Graph.mk (rowS s m) (rowA s x y m)) ((List.range (m + 1)).map (fun i : Nat => (i : Int) * y)) (2 * i) = x - y := by
        unfold rc; simp only; rw [h3]; simp only; rw [gp i i0 (by omega), gp (i + 1) (by omega) (by omega), m1]; omega
      have r2 : rc (Graph.mk (rowS s m) (rowA s x y m)) ((List.range (m + 1)).map (fun i : Nat => (i : Int) * y)) (2 * i + 1) = 0 := by
        unfold rc; simp only; rw [h4]; simp only; rw [gp i i0 (by omega), gp (i + 1) (by omega) (by omega), m1]; omega
      rw [h1, h2, h3, h4, r1, r2]
      simp only
      omega)
    exact fun j j0 j1 => this j j0 (by omega)

theorem flowLarge_plain (n supply a b : Int) (_ : -9223372036854775808 ≤ n ∧ n ≤ 9223372036854775807) (_ : -9223372036854775808 ≤ supply ∧ supply ≤ 9223372036854775807) (_ : -9223372036854775808 ≤ a ∧ a ≤ 9223372036854775807) (_ : -9223372036854775808 ≤ b ∧ b ≤ 9223372036854775807) :
    law27_FlowLarge_m n supply a b = some true := by
  refine wp_true ?_
  unfold law27_FlowLarge_m
  refine wp_bind _ (pick_wp n 95 (by omega) (by omega)) ?_
  rintro k ⟨k0, k1⟩
  refine wp_i64 (by omega) ?_
  refine wp_bind _ (pick_wp supply 1048576 (by omega) (by omega)) ?_
  rintro s ⟨s0, s1⟩
  refine wp_bind _ (pick_wp a 1000 (by omega) (by omega)) ?_
  rintro x ⟨x0, x1⟩
  refine wp_bind _ (pick_wp b 1000 (by omega) (by omega)) ?_
  rintro y ⟨y0, y1⟩
  obtain ⟨m, hm⟩ : ∃ m : Nat, (m : Int) = 1 + k := ⟨(1 + k).toNat, by omega⟩
  have hm1 : 1 ≤ m := by omega
  have hm2 : m ≤ 95 := by omega
  rw [mk_int (by omega) (by omega), show (2 + k).toNat = m + 1 by omega]
  simp only [Option.bind_some]
  rw [show 2 + k - 1 = (m : Int) by omega]
  refine wp_i64 (by omega) (wp_i64 (by omega) ?_)
  refine wp_idxi (by simp <;> omega) (wp_idxi (by simp <;> omega) ?_)
  have hd : s.tdiv 2 = s / 2 := Int.tdiv_eq_ediv_of_nonneg s0
  refine wp_iter (fun (t : List Arc × Nat) => t.2 ≤ m ∧ t.1 = rowA s x y t.2) (fun t => 100 - t.2) _ ?_ FUEL _ ⟨Nat.zero_le _, rfl⟩ (fuel_of (by simp only; omega))
  rintro c ⟨aa, t⟩ ⟨ht, e⟩ hc
  simp only at ht e hc
  subst e
  have hl := rowA_len s x y t
  simp only [law27_FlowLarge_b1]
  rw [hd]
  refine wp_i64 (by omega) (wp_ite (fun h => ?_) (fun h => ?_))
  · simp only [decide_eq_true_eq] at h
    refine wp_i64 (by omega) (wp_chk (by simp [i64b]; omega) (wp_i64 (by omega) (wp_chk (by simp <;> omega) (wp_i64 (by omega) (hc _ ⟨by simp only; omega, rfl⟩ (by simp only; omega))))))
  · simp only [decide_eq_false_iff_not] at h
    obtain rfl : t = m := by omega
    have V := row_valid (x := x) (y := y) hm1 hm2 s0 s1 x0 x1 y0 y1
    have p1 : 0 ≤ s * y ∧ s * y ≤ s * 1000 := ⟨Int.mul_nonneg s0 y0, Int.mul_le_mul_of_nonneg_left (by omega) s0⟩
    have p2 : 0 ≤ s / 2 * x ∧ s / 2 * x ≤ s / 2 * 1000 := ⟨Int.mul_nonneg (by omega) x0, Int.mul_le_mul_of_nonneg_left (by omega) (by omega)⟩
    have p3 : 0 ≤ (s - s / 2) * y ∧ (s - s / 2) * y ≤ (s - s / 2) * 1000 := ⟨Int.mul_nonneg (by omega) y0, Int.mul_le_mul_of_nonneg_left (by omega) (by omega)⟩
    have go : ∀ least α β : Int, least = α * x + β * y → α + β = s → 0 ≤ α → 0 ≤ β → α ≤ s / 2 → ((x < y ∧ α = s / 2) ∨ (y ≤ x ∧ α = 0)) → 0 ≤ least → least ≤ 10000000000 → WP (law27_FlowLarge_k2 (List.replicate (t + 1) 0) s k (rowA s x y t) least) (fun b => b = true) := by
      intro least α β hle hab h0 h1 h2 h3 l0 l1
      simp only [law27_FlowLarge_k2]
      rw [show 2 + k - 1 = (t : Int) by omega]
      have o := row_opt (x := x) hm1 hm2 y0 y1 hab h0 h1 h2 h3
      obtain ⟨f, hf, of⟩ := solve_ok V o.feas
      have c1 : f.Cost = least * t := by
        have a := of.least V o.feas
        have b := o.least V of.feas
        have d := of.cost
        have e := o.cost
        simp only at a b e
        rw [← hle] at b e
        omega
      refine wp_eq hf (wp_eq awake27 ?_)
      have hv : ref24_VerifyFlow_m (Graph.mk (rowS s t) (rowA s x y t)) f = some true := by
        rw [verifyFlow_m, of.verify V]
      unfold rowS at hv
      rw [hv]
      have b1 : 0 ≤ least * t ∧ least * t ≤ least * 95 := ⟨Int.mul_nonneg l0 (by omega), Int.mul_le_mul_of_nonneg_left (by omega) l0⟩
      have i1 : i64b (t : Int) = true := i64b_of (by omega) (by omega)
      have i2 : i64b (least * t) = true := i64b_of (by omega) (by omega)
      simp only [c1, i1, i2, Bool.or_true]
      exact wp_chk rfl (wp_chk rfl (wp_some (by simp)))
    simp only [law27_FlowLarge_k1]
    rw [hd]
    refine wp_i64 (by omega) (wp_ite (fun h => ?_) (fun h => ?_))
    · simp only [decide_eq_true_eq] at h
      refine wp_chk (by simp [i64b]; omega) (wp_i64 (by omega) (wp_chk (by simp [i64b]; omega) (wp_i64 (by omega) (wp_i64 (by omega) (wp_i64 (by omega) ?_)))))
      exact go _ (s / 2) (s - s / 2) rfl (by omega) (by omega) (by omega) (by omega) (Or.inl ⟨h, rfl⟩) (by omega) (by omega)
    · simp only [decide_eq_false_iff_not] at h
      exact go _ 0 s (by omega) (by omega) (by omega) (by omega) (by omega) (Or.inr ⟨by omega, rfl⟩) (by omega) (by omega)
end Go.Proofs.Ytedocibniankjaa

/- Plain laws of chapter 27: the maker of networks, and the least cost by trying all flows. -/
import Derived.Test.YtedocibniankjaaQ8
import Derived.Test.YtedocibniankjaaPp
import Derived.Test.YtedocibniankjaaFc
namespace Go.Proofs.Ytedocibniankjaa
open Go.Dc

structure GoodG (g : Graph) : Prop where
  n1 : 2 ≤ g.Supply.length
  n2 : g.Supply.length ≤ 4
  m : g.Arcs.length ≤ 5
  sup : ∀ v : Int, 0 ≤ v → v < g.Supply.length → -4 ≤ gi g.Supply v ∧ gi g.Supply v ≤ 4
  sum : g.Supply.sum = 0
  arc : ∀ a ∈ g.Arcs, 0 ≤ a.From ∧ a.From < g.Supply.length ∧ 0 ≤ a.To ∧ a.To < g.Supply.length ∧ a.From ≠ a.To ∧ 0 ≤ a.Cap ∧ a.Cap ≤ 2 ∧ -4 ≤ a.Cost ∧ a.Cost ≤ 7

theorem GoodG.valid {g : Graph} (G : GoodG g) : Valid g where
  n1 := by have := G.n1; omega
  n2 := by have := G.n2; omega
  m := by have := G.m; omega
  sup := fun x hx => by
    obtain ⟨j, hj, e⟩ := mem_gi hx
    have := G.sup j (by omega) (by omega)
    rw [e] at this; omega
  arc := fun a ha => by
    obtain ⟨v1, v2, v3, v4, v5, v6, v7, v8, v9⟩ := G.arc a ha
    exact ⟨v1, v2, v3, v4, v5, v6, by omega, by omega, by omega⟩
  sum := G.sum

theorem sum_set (l : List Int) {i : Int} (x : Int) (i0 : 0 ≤ i) (i1 : i < l.length) : (l.set i.toNat x).sum = l.sum + (x - gi l i) := by
  rw [← sumTo_gi, ← sumTo_gi, List.length_set, sumTo_upd (f := gi l) i i0 i1 (fun j j0 j1 hne => by rw [gi_set _ _ _ _ i0 j0 i1, if_neg hne]), gi_set _ _ _ _ i0 i0 i1, if_pos rfl]

theorem next_wp {l : List Int} {i : Int} (h : SrcOk l i) (n : Int) (h0 : 1 ≤ n) (h1 : n ≤ 4611686018427387904) : WP (keep_Source_Next_m (Keep_Source.mk l i) n) (fun y => 0 ≤ y.1 ∧ y.1 < n ∧ SrcOk l y.2) := by
  obtain ⟨v, j, e, a, b, c⟩ := next_m h n h0 h1
  exact ⟨(v, j), e, a, b, c⟩
theorem pick_wp (v n : Int) (h0 : 1 ≤ n) (h1 : n ≤ 4611686018427387904) : WP (keep_Pick_m v n) (fun k => 0 ≤ k ∧ k < n) := by
  obtain ⟨k, e, h⟩ := pick_m v n h0 h1
  exact ⟨k, e, h⟩

theorem graph_wp (l : List Int) (hl : l.length ≤ 140737488355328) : WP (keep2_Graph_m l) GoodG := by
  have hi : SrcOk l 0 := ⟨by omega, by omega, hl⟩
  unfold keep2_Graph_m keep_From_m
  simp only [Option.bind_some]
  refine wp_bind _ (next_wp hi 3 (by omega) (by omega)) ?_
  rintro ⟨k, i1⟩ ⟨k0, k1, hi1⟩
  simp only at k0 k1 hi1
  refine wp_i64 (by simp only; omega) ?_
  simp only
  rw [mk_int (by omega) (by omega)]
  simp only [Option.bind_some]
  refine wp_bind _ (next_wp hi1 5 (by omega) (by omega)) ?_
  rintro ⟨c, i2⟩ ⟨c0, c1, hi2⟩
  simp only at c0 c1 hi2
  have len : ((List.replicate (2 + k).toNat (0 : Int)).length : Int) = 2 + k := by rw [List.length_replicate]; omega
  refine wp_iter (fun (t : Int × List Int × Int) => SrcOk l t.1 ∧ (t.2.1.length : Int) = 2 + k ∧ t.2.1.sum = 0 ∧ 0 ≤ t.2.2 ∧ t.2.2 ≤ 4 ∧ ∀ v : Int, 0 ≤ v → v < 2 + k → -(4 - t.2.2) ≤ gi t.2.1 v ∧ gi t.2.1 v ≤ 4 - t.2.2)
    (fun t => t.2.2.toNat) GoodG ?_ FUEL _ ⟨hi2, len, by simp [List.sum_replicate_int], c0, by simp only; omega, fun v v0 v1 => by simp only; rw [gi_rep _ _ _ v0 (by omega)]; omega⟩ (fuel_of (by simp only; omega))
  rintro co ⟨i, sup, c⟩ ⟨hi, hl', hs, c0, c1, hb⟩ hc
  simp only at hi hl' hs c0 c1 hb hc
  simp only [keep2_Graph_b1]
  refine wp_ite (fun h => ?_) (fun h => ?_)
  · simp only [decide_eq_true_eq] at h
    refine wp_bind _ (next_wp hi (2 + k) (by omega) (by omega)) ?_
    rintro ⟨a, i3⟩ ⟨a0, a1, hi3⟩
    simp only at a0 a1 hi3
    refine wp_bind _ (next_wp hi3 (2 + k) (by omega) (by omega)) ?_
    rintro ⟨b, i4⟩ ⟨b0, b1, hi4⟩
    simp only at b0 b1 hi4
    simp only
    have ba := hb a a0 a1
    have bb := hb b b0 b1
    have g1 : ∀ v : Int, 0 ≤ v → gi (sup.set a.toNat (gi sup a + 1)) v = if v = a then gi sup a + 1 else gi sup v := fun v v0 => gi_set _ _ _ _ a0 v0 (by omega)
    refine wp_idxi (by omega) (wp_i64 (by omega) (wp_idxi (by omega) (wp_idxi (by rw [List.length_set]; omega) ?_)))
    have gbb : -(4 - c) ≤ gi (sup.set a.toNat (gi sup a + 1)) b ∧ gi (sup.set a.toNat (gi sup a + 1)) b ≤ 4 - c + 1 := by rw [g1 b b0]; split <;> omega
    refine wp_i64 (by omega) (wp_idxi (by rw [List.length_set]; omega) (wp_i64 (by omega) (hc _ ⟨hi4, ?_, ?_, by simp only; omega, by simp only; omega, ?_⟩ (by simp only; omega))))
    · simp only [List.length_set]; exact hl'
    · simp only
      rw [sum_set _ _ b0 (by rw [List.length_set]; omega), sum_set _ _ a0 (by omega), hs]; omega
    · intro v v0 v1
      simp only
      rw [gi_set _ _ _ _ b0 v0 (by rw [List.length_set]; omega)]
      have := hb v v0 v1
      by_cases e : v = b
      · rw [if_pos e, g1 b b0]; split <;> omega
      · rw [if_neg e, g1 v v0]; split
        · rename_i e2; subst e2; omega
        · omega
  · simp only [decide_eq_false_iff_not] at h
    simp only [keep2_Graph_k1]
    refine wp_bind _ (next_wp hi 6 (by omega) (by omega)) ?_
    rintro ⟨q, i5⟩ ⟨q0, q1, hi5⟩
    simp only at q0 q1 hi5
    refine wp_iter (fun (t : Int × List Arc × Int) => SrcOk l t.1 ∧ 0 ≤ t.2.2 ∧ (t.2.1.length : Int) + t.2.2 ≤ 5 ∧ ∀ a ∈ t.2.1, 0 ≤ a.From ∧ a.From < sup.length ∧ 0 ≤ a.To ∧ a.To < sup.length ∧ a.From ≠ a.To ∧ 0 ≤ a.Cap ∧ a.Cap ≤ 2 ∧ -4 ≤ a.Cost ∧ a.Cost ≤ 7)
      (fun t => t.2.2.toNat) GoodG ?_ FUEL _ ⟨hi5, q0, by simp only [List.length_nil]; omega, fun a ha => (by cases ha)⟩ (fuel_of (by simp only; omega))
    rintro co ⟨j, arcs, q⟩ ⟨hj, q0, q1, ha⟩ hc2
    simp only at hj q0 q1 ha hc2
    simp only [keep2_Graph_b2]
    refine wp_ite (fun h2 => ?_) (fun h2 => ?_)
    · simp only [decide_eq_true_eq] at h2
      refine wp_bind _ (next_wp hj (2 + k) (by omega) (by omega)) ?_
      rintro ⟨a, j1⟩ ⟨a0, a1, hj1⟩
      simp only at a0 a1 hj1
      refine wp_i64 (by simp only; omega) (wp_i64 (by omega) ?_)
      refine wp_bind _ (next_wp hj1 (2 + k - 1) (by omega) (by omega)) ?_
      rintro ⟨b, j2⟩ ⟨b0, b1, hj2⟩
      simp only at b0 b1 hj2
      refine wp_i64 (by simp only; omega) (wp_chk (by simp; omega) ?_)
      refine wp_bind _ (next_wp hj2 3 (by omega) (by omega)) ?_
      rintro ⟨d, j3⟩ ⟨d0, d1, hj3⟩
      simp only at d0 d1 hj3
      refine wp_bind _ (next_wp hj3 12 (by omega) (by omega)) ?_
      rintro ⟨e, j4⟩ ⟨e0, e1, hj4⟩
      simp only at e0 e1 hj4
      simp only
      refine wp_i64 (by omega) (wp_chk (by simp; omega) (wp_i64 (by omega) (hc2 _ ⟨hj4, by simp only; omega, by simp only [List.length_append, List.length_singleton]; omega, ?_⟩ (by simp only; omega))))
      intro x hx
      simp only [List.mem_append, List.mem_singleton] at hx
      rcases hx with hx | rfl
      · exact ha x hx
      · simp only
        rw [Int.tmod_eq_emod_of_nonneg (by omega)]
        have hk : k = 0 ∨ k = 1 ∨ k = 2 := by omega
        rcases hk with rfl | rfl | rfl <;> omega
    · simp only [decide_eq_false_iff_not] at h2
      simp only [keep2_Graph_k2]
      refine wp_some ⟨by simp only; omega, by simp only; omega, by simp only; omega, fun v v0 v1 => ?_, hs, ha⟩
      have := hb v v0 (by simp only at v1; omega)
      simp only; omega

/-! ### The least cost -/

def Less (A : Nat) (Y X : List Int) : Prop := ∃ i : Int, 0 ≤ i ∧ i < A ∧ gi Y i < gi X i ∧ ∀ j : Int, i < j → j < A → gi Y j = gi X j
def Cov (A : Nat) (Y X : List Int) : Prop := Less A Y X ∨ ∀ j : Int, 0 ≤ j → j < A → gi Y j = gi X j

theorem top_diff (Y X : List Int) : ∀ A : Nat, (∀ j : Int, 0 ≤ j → j < A → gi Y j = gi X j) ∨ ∃ i : Int, 0 ≤ i ∧ i < A ∧ gi Y i ≠ gi X i ∧ ∀ j : Int, i < j → j < A → gi Y j = gi X j
  | 0 => Or.inl fun j _ _ => by omega
  | A + 1 => by
    by_cases e : gi Y A = gi X A
    · rcases top_diff Y X A with h | ⟨i, i0, i1, h1, h2⟩
      · left
        intro j j0 j1
        by_cases ej : j = A
        · rw [ej]; exact e
        · exact h j j0 (by omega)
      · right
        refine ⟨i, i0, by omega, h1, fun j j0 j1 => ?_⟩
        by_cases ej : j = A
        · rw [ej]; exact e
        · exact h2 j j0 (by omega)
    · right
      exact ⟨A, by omega, by omega, e, fun j j0 j1 => by omega⟩

def left3 (g : Graph) (x : List Int) (n : Nat) : Int := sumTo (fun i => ((ar g.Arcs i).Cap - gi x i) * (3 ^ i.toNat : Nat)) n

theorem pow3_sum (f : Int → Int) (i : Nat) (h : ∀ j : Int, 0 ≤ j → j < i → f j ≤ 2) : sumTo (fun j => f j * (3 ^ j.toNat : Nat)) i + 1 ≤ (3 ^ i : Nat) := by
  induction i with
  | zero => simp [sumTo]
  | succ i ih =>
    have a := ih (fun j j0 j1 => h j j0 (by omega))
    have b := h i (by omega) (by omega)
    rw [sumTo, Nat.pow_succ]
    have c : f i * ((3 ^ ((i : Int)).toNat : Nat) : Int) ≤ 2 * ((3 ^ i : Nat) : Int) := by
      rw [show ((i : Nat) : Int).toNat = i by omega]
      exact Int.mul_le_mul_of_nonneg_right b (Int.natCast_nonneg _)
    omega

theorem left3_nonneg {g : Graph} {x : List Int} {n : Nat} (h : ∀ i : Int, 0 ≤ i → i < n → gi x i ≤ (ar g.Arcs i).Cap) : 0 ≤ left3 g x n :=
  sumTo_nonneg (fun i i0 i1 => Int.mul_nonneg (by have := h i i0 i1; omega) (Int.natCast_nonneg _))

theorem least_wp (g : Graph) (G : GoodG g) : WP (ref24_LeastFlow_m g) (fun y => (y.2 = true → (∃ X, Feas g X ∧ costS g X = y.1) ∧ ∀ Y, Feas g Y → y.1 ≤ costS g Y) ∧ (y.2 = false → ∀ Y, ¬ Feas g Y)) := by
  have V := G.valid
  have hm := G.m
  unfold ref24_LeastFlow_m
  rw [mk_int (by omega) (by omega)]
  simp only [Option.bind_some]
  have cap : ∀ i : Int, 0 ≤ i → i < g.Arcs.length → 0 ≤ (ar g.Arcs i).Cap ∧ (ar g.Arcs i).Cap ≤ 2 := fun i i0 i1 => by
    obtain ⟨_, _, _, _, _, h6, h7, _⟩ := G.arc _ (ar_mem i0 i1)
    exact ⟨h6, h7⟩
  have lb : ∀ x : List Int, (∀ i : Int, 0 ≤ i → i < g.Arcs.length → 0 ≤ gi x i ∧ gi x i ≤ (ar g.Arcs i).Cap) → left3 g x g.Arcs.length ≤ 1000 := fun x hx => by
    have := pow3_sum (fun i => (ar g.Arcs i).Cap - gi x i) g.Arcs.length (fun j j0 j1 => by have := hx j j0 j1; have := cap j j0 j1; omega)
    have e : 3 ^ g.Arcs.length ≤ 3 ^ 5 := Nat.pow_le_pow_right (by omega) hm
    unfold left3
    have e2 : (3 ^ 5 : Nat) = 243 := by decide
    omega
  have gz : ∀ v : Int, gi (List.replicate (g.Arcs.length : Int).toNat 0) v = 0 := fun v => by
    unfold gi; simp [List.getElem?_replicate]; split <;> simp
  refine wp_iter (fun (t : List Int × Int × Bool) => t.1.length = g.Arcs.length ∧ (∀ i : Int, 0 ≤ i → i < g.Arcs.length → 0 ≤ gi t.1 i ∧ gi t.1 i ≤ (ar g.Arcs i).Cap) ∧
      (t.2.2 = true → (∃ X, Feas g X ∧ costS g X = t.2.1) ∧ ∀ Y, Feas g Y → Less g.Arcs.length Y t.1 → t.2.1 ≤ costS g Y) ∧ (t.2.2 = false → ∀ Y, Feas g Y → ¬ Less g.Arcs.length Y t.1))
    (fun t => (left3 g t.1 g.Arcs.length).toNat) _ ?_ FUEL _ ⟨by simp, fun i i0 i1 => by simp only; rw [gz]; exact ⟨by omega, (cap i i0 i1).1⟩, fun h => (by cases h), ?_⟩ ?_
  · rintro co ⟨x, best, found⟩ ⟨hl, hx, hT, hF⟩ hc
    simp only at hl hx hT hF hc
    have go : ∀ best' found', (found' = true → (∃ X, Feas g X ∧ costS g X = best') ∧ ∀ Y, Feas g Y → Cov g.Arcs.length Y x → best' ≤ costS g Y) → (found' = false → ∀ Y, Feas g Y → ¬ Cov g.Arcs.length Y x) →
        WP (ref24_LeastFlow_k1 g co x (best', found')) (fun y => (y.2 = true → (∃ X, Feas g X ∧ costS g X = y.1) ∧ ∀ Y, Feas g Y → y.1 ≤ costS g Y) ∧ (y.2 = false → ∀ Y, ¬ Feas g Y)) := by
      intro best' found' hT' hF'
      simp only [ref24_LeastFlow_k1]
      refine wp_iter (fun (t : List Int × Nat) => t.2 ≤ g.Arcs.length ∧ t.1.length = g.Arcs.length ∧ (∀ j : Int, 0 ≤ j → j < t.2 → gi t.1 j = 0 ∧ gi x j = (ar g.Arcs j).Cap) ∧ ∀ j : Int, (t.2 : Int) ≤ j → j < g.Arcs.length → gi t.1 j = gi x j)
        (fun t => 100 - t.2) _ ?_ FUEL _ ⟨Nat.zero_le _, hl, fun j _ j1 => by simp only at j1; omega, fun j _ _ => rfl⟩ (fuel_of (by simp only; omega))
      rintro k2 ⟨x2, i⟩ ⟨hi, hl2, hz, hk⟩ hc2
      simp only at hi hl2 hz hk hc2
      simp only [ref24_LeastFlow_b2]
      by_cases hlt : i < g.Arcs.length
      · have e1 : decide ((i : Int) < (x2.length : Int)) = true := by simp; omega
        have ea : ar g.Arcs i = g.Arcs[i] := ar_get (by simp [hlt])
        simp only [e1]
        refine wp_whn (fun _ => ?_) (fun h => by cases h)
        refine wp_idxi (by omega) (wp_whn (fun _ => ?_) (fun h => by cases h))
        refine wp_idx (x := g.Arcs[i]) (by omega) (by simp [hlt]) ?_
        simp only [Bool.true_and]
        have hxi := hx i (by omega) (by omega)
        have hci := cap i (by omega) (by omega)
        have hki := hk i (by omega) (by omega)
        refine wp_ite (fun h => ?_) (fun h => ?_)
        · simp only [decide_eq_true_eq] at h
          refine wp_idxi (by omega) (wp_i64 (by omega) (hc2 _ ⟨by simp only; omega, by simp only [List.length_set]; omega, ?_, ?_⟩ (by simp only; omega)))
          · intro j j0 j1
            simp only at j1 ⊢
            rw [gi_set _ _ _ _ (by omega) j0 (by omega)]
            by_cases e : j = i
            · rw [if_pos e, e]; exact ⟨rfl, by rw [← hki, h, ea]⟩
            · rw [if_neg e]; exact hz j j0 (by omega)
          · intro j j0 j1
            simp only at j0 ⊢
            rw [gi_set _ _ _ _ (by omega) (by omega) (by omega), if_neg (by omega)]
            exact hk j (by omega) j1
        · simp only [decide_eq_false_iff_not] at h
          rw [← ea] at h
          simp only [ref24_LeastFlow_k2]
          refine wp_ite (fun h' => by simp at h'; omega) (fun _ => ?_)
          have g2 : ∀ j : Int, 0 ≤ j → gi (x2.set ((i : Int)).toNat (gi x2 i + 1)) j = if j = i then gi x2 i + 1 else gi x2 j := fun j j0 => gi_set _ _ _ _ (by omega) j0 (by omega)
          refine wp_idxi (by omega) (wp_i64 (by omega) (wp_idxi (by omega) (hc _ ⟨by simp only [List.length_set]; omega, ?_, ?_, ?_⟩ ?_)))
          · intro j j0 j1
            simp only
            rw [g2 j j0]
            by_cases e : j = i
            · rw [if_pos e, e]; omega
            · rw [if_neg e]
              by_cases e2 : j < i
              · rw [(hz j j0 e2).1]; exact ⟨by omega, (cap j j0 j1).1⟩
              · rw [hk j (by omega) j1]; exact hx j j0 j1
          all_goals
            have cov : ∀ Y, Feas g Y → Less g.Arcs.length Y (x2.set ((i : Int)).toNat (gi x2 i + 1)) → Cov g.Arcs.length Y x := by
              rintro Y F ⟨t, t0, t1, ht, hab⟩
              rw [g2 t t0] at ht
              by_cases e : t = i
              · rw [if_pos e, e] at ht
                have same : ∀ j : Int, (i : Int) < j → j < g.Arcs.length → gi Y j = gi x j := fun j j0 j1 => by
                  have := hab j (by omega) j1
                  rw [g2 j (by omega), if_neg (by omega), hk j (by omega) j1] at this
                  exact this
                by_cases e2 : gi Y i < gi x i
                · exact Or.inl ⟨i, by omega, by omega, e2, same⟩
                · have e3 : gi Y i = gi x i := by omega
                  rcases top_diff Y x g.Arcs.length with h' | ⟨s, s0, s1, hs, hsa⟩
                  · exact Or.inr h'
                  · left
                    refine ⟨s, s0, s1, ?_, hsa⟩
                    have hsi : s < i := by
                      refine Classical.byContradiction fun hge => ?_
                      by_cases e4 : s = i
                      · rw [e4] at hs; exact hs e3
                      · exact hs (same s (by omega) s1)
                    have := (F.rng s s0 s1).2
                    have := (hz s s0 hsi).2
                    omega
              · rw [if_neg e] at ht
                by_cases e2 : t < i
                · rw [(hz t t0 e2).1] at ht
                  have := (F.rng t t0 t1).1
                  omega
                · left
                  refine ⟨t, t0, t1, by rw [hk t (by omega) t1] at ht; exact ht, fun j j0 j1 => ?_⟩
                  have := hab j j0 j1
                  rw [g2 j (by omega), if_neg (by omega), hk j (by omega) j1] at this
                  exact this
          · intro hf
            exact ⟨(hT' hf).1, fun Y F hlY => (hT' hf).2 Y F (cov Y F hlY)⟩
          · intro hf Y F hlY
            exact hF' hf Y F (cov Y F hlY)
          · simp only
            -- the number of flows still to be tried
            have n1 := left3_nonneg (g := g) (x := x2.set ((i : Int)).toNat (gi x2 i + 1)) (n := g.Arcs.length) (fun j j0 j1 => by
              rw [g2 j j0]
              by_cases e : j = i
              · rw [if_pos e, e]; omega
              · rw [if_neg e]
                by_cases e2 : j < i
                · rw [(hz j j0 e2).1]; exact (cap j j0 j1).1
                · rw [hk j (by omega) j1]; exact (hx j j0 j1).2)
            have key : ∀ n : Nat, n ≤ g.Arcs.length → (n ≤ i → left3 g (x2.set ((i : Int)).toNat (gi x2 i + 1)) n = left3 g x n + sumTo (fun j => (ar g.Arcs j).Cap * (3 ^ j.toNat : Nat)) n) ∧
                (i < n → left3 g (x2.set ((i : Int)).toNat (gi x2 i + 1)) n < left3 g x n) := by
              intro n
              induction n with
              | zero => intro _; exact ⟨fun _ => rfl, fun h => by omega⟩
              | succ n ih =>
                intro hn
                obtain ⟨ih1, ih2⟩ := ih (by omega)
                have gn := g2 n (by omega)
                constructor
                · intro hni
                  have a := ih1 (by omega)
                  have b := hz n (by omega) (by omega)
                  rw [if_neg (by omega), b.1] at gn
                  unfold left3 at a ⊢
                  rw [sumTo, sumTo, a, gn, b.2, sumTo]
                  simp
                  omega
                · intro hni
                  by_cases e : n = i
                  · subst e
                    have a := ih1 (by omega)
                    rw [if_pos rfl] at gn
                    have p := pow3_sum (fun j => (ar g.Arcs j).Cap) n (fun j j0 j1 => (cap j j0 (by omega)).2)
                    unfold left3 at a ⊢
                    rw [sumTo, sumTo, a, gn, hki]
                    have e1 : ((ar g.Arcs n).Cap - (gi x n + 1)) * ((3 ^ ((n : Int)).toNat : Nat) : Int) = ((ar g.Arcs n).Cap - gi x n) * ((3 ^ ((n : Int)).toNat : Nat) : Int) - ((3 ^ n : Nat) : Int) := by
                      rw [show (ar g.Arcs n).Cap - (gi x n + 1) = ((ar g.Arcs n).Cap - gi x n) - 1 by omega, Int.sub_mul, show ((n : Nat) : Int).toNat = n by omega]; omega
                    rw [e1]
                    omega
                  · have a := ih2 (by omega)
                    rw [if_neg (by omega), hk n (by omega) (by omega)] at gn
                    unfold left3 at a ⊢
                    rw [sumTo, sumTo, gn]
                    omega
            have := (key g.Arcs.length (Nat.le_refl _)).2 hlt
            omega
      · obtain rfl : i = g.Arcs.length := by omega
        have e1 : decide ((g.Arcs.length : Int) < (x2.length : Int)) = false := by simp; omega
        simp only [e1]
        refine wp_whn (fun h => by cases h) (fun _ => wp_whn (fun h => by cases h) (fun _ => ?_))
        refine wp_ite (fun h => by cases h) (fun _ => ?_)
        simp only [ref24_LeastFlow_k2]
        refine wp_ite (fun _ => ?_) (fun h' => by simp at h'; omega)
        have cov : ∀ Y, Feas g Y → Cov g.Arcs.length Y x := by
          intro Y F
          rcases top_diff Y x g.Arcs.length with h' | ⟨s, s0, s1, hs, hsa⟩
          · exact Or.inr h'
          · left
            refine ⟨s, s0, s1, ?_, hsa⟩
            have := (F.rng s s0 s1).2
            have := (hz s s0 s1).2
            omega
        refine wp_some ⟨fun hf => ⟨(hT' hf).1, fun Y F => (hT' hf).2 Y F (cov Y F)⟩, fun hf Y F => hF' hf Y F (cov Y F)⟩
    simp only [ref24_LeastFlow_b1]
    obtain ⟨b, hb, hbF⟩ := feasM V x
    refine wp_bind _ ⟨b, hb, rfl⟩ ?_
    rintro _ rfl
    have eqc : ∀ Y, Feas g Y → (∀ j : Int, 0 ≤ j → j < g.Arcs.length → gi Y j = gi x j) → Y = x := fun Y F h => by
      refine ext_getD (by rw [F.len, hl]) (fun v => ?_)
      by_cases hv : v < g.Arcs.length
      · exact h v (by omega) (by omega)
      · have := F.len
        rw [List.getD_eq_getElem?_getD, List.getD_eq_getElem?_getD, List.getElem?_eq_none (by omega), List.getElem?_eq_none (by omega)]
    refine wp_ite (fun h => ?_) (fun h => ?_)
    · have F := hbF.1 h
      rw [costM V F]
      simp only [Option.bind_some]
      refine wp_ite (fun hi => ?_) (fun hi => ?_)
      · simp only [Bool.or_eq_true, Bool.not_eq_true', decide_eq_true_eq] at hi
        refine go _ _ (fun _ => ⟨⟨x, F, rfl⟩, fun Y FY hc' => ?_⟩) (fun h => by cases h)
        rcases hc' with hc' | hc'
        · cases hfd : found with
          | true =>
            have := (hT hfd).2 Y FY hc'
            rw [hfd] at hi
            rcases hi with hi | hi
            · cases hi
            · omega
          | false => exact absurd hc' (hF hfd Y FY)
        · rw [eqc Y FY hc']; exact Int.le_refl _
      · simp only [Bool.or_eq_false_iff, Bool.not_eq_false', decide_eq_false_iff_not] at hi
        refine go _ _ (fun hf => ⟨(hT hf).1, fun Y FY hc' => ?_⟩) (fun hf => by rw [hi.1] at hf; cases hf)
        rcases hc' with hc' | hc'
        · exact (hT hf).2 Y FY hc'
        · rw [eqc Y FY hc']; omega
    · have nF : ¬ Feas g x := fun F => by rw [hbF.2 F] at h; cases h
      refine go _ _ (fun hf => ⟨(hT hf).1, fun Y FY hc' => ?_⟩) (fun hf Y FY hc' => ?_)
      · rcases hc' with hc' | hc'
        · exact (hT hf).2 Y FY hc'
        · rw [eqc Y FY hc'] at FY; exact absurd FY nF
      · rcases hc' with hc' | hc'
        · exact hF hf Y FY hc'
        · rw [eqc Y FY hc'] at FY; exact nF FY
  · intro _ Y F hlY
    obtain ⟨i, i0, i1, hlt, _⟩ := hlY
    simp only at hlt
    rw [gz] at hlt
    have := (F.rng i i0 i1).1
    omega
  · refine fuel_of ?_
    have := lb (List.replicate (g.Arcs.length : Int).toNat 0) (fun i i0 i1 => by rw [gz]; exact ⟨by omega, (cap i i0 i1).1⟩)
    simp only
    omega
end Go.Proofs.Ytedocibniankjaa

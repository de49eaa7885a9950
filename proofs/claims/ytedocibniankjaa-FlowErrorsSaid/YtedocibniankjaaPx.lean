/- Plain laws of chapter 27: Excess. -/
import Derived.Test.YtedocibniankjaaPc
namespace Go.Proofs.Ytedocibniankjaa
open Go.Dc
theorem excess2 (g : Graph) (hg : Valid g) (inn : List Bool) (hin : inn.length = g.Supply.length) (s : Int) (hs : -1000000000 ≤ s ∧ s ≤ 1000000000) : ∃ y, iter (flow_Excess_b2 g inn) FUEL (s, 0) = some y := by
  refine iter_some (fun (t : Int × Nat) => t.2 ≤ g.Arcs.length ∧ -1000000000 - 1048576 * (t.2 : Int) ≤ t.1 ∧ t.1 ≤ 1000000000) (fun t => g.Arcs.length - t.2) ?_ FUEL (s, 0) ⟨Nat.zero_le _, by simp; omega, hs.2⟩ (FUEL_big (by have := hg.m; omega))
  rintro c ⟨t, i⟩ ⟨hi, h1, h2⟩ hc
  have him := hg.m
  simp only at hi h1 h2
  simp only [flow_Excess_b2]
  by_cases hlt : (i : Int) < (g.Arcs.length : Int)
  · simp only [hlt, decide_true, if_true]
    have hia := idx_of_lt (xs := g.Arcs) (i := (i : Int)) (by omega) hlt
    rw [hia]
    simp only [Option.bind_some]
    obtain ⟨v1, v2, v3, v4, v5, v6, v7, v8, v9⟩ := hg.arc (g.Arcs.getD ((i : Int).toNat) default) (by have h : i < g.Arcs.length := (by omega); simp [h])
    generalize g.Arcs.getD ((i : Int).toNat) default = a at v1 v2 v3 v4 v5 v6 v7 v8 v9 ⊢
    rw [idx_of_lt (xs := inn) v1 (by omega)]
    simp only [Option.bind_some]
    have key : ∀ s', -1000000000 - 1048576 * ((i : Int) + 1) ≤ s' → s' ≤ 1000000000 → ∃ y, flow_Excess_k3 c i s' = some y := fun s' g1 g2 => by
      simp only [flow_Excess_k3]
      exact hc (s', i + 1) ⟨by simp only; omega, by push_cast; exact g1, g2⟩ (by simp only; omega)
    cases inn.getD a.From.toNat default with
    | false =>
      simp only [whn, Option.bind_some, Bool.false_and, Bool.false_eq_true, if_false]
      exact key t (by omega) h2
    | true =>
      simp only [whn]
      rw [idx_of_lt (xs := inn) v3 (by omega)]
      simp only [Option.bind_some, Bool.true_and]
      cases inn.getD a.To.toNat default with
      | false =>
        simp only [Bool.not_false, if_true]
        rw [chk_true (i64b_of (by omega) (by omega))]
        exact key (t - a.Cap) (by omega) (by omega)
      | true =>
        simp only [Bool.not_true, Bool.false_eq_true, if_false]
        exact key t (by omega) h2
  · simp only [hlt, decide_false, Bool.false_eq_true, if_false, flow_Excess_k2]
    exact ⟨_, rfl⟩

theorem excess_some (g : Graph) (set : List Int) (hs : set.length ≤ 140737488355328) : ∃ y, flow_Excess_m g set = some y := by
  unfold flow_Excess_m
  rw [check_m]
  simp only [Option.bind_some]
  by_cases h1 : checkB g = true
  · have hg := (valid_iff g).1 h1
    have hn := hg.n2
    rw [h1]
    simp only [Bool.not_true, Bool.false_eq_true, if_false]
    rw [mk_bool (by omega) (by omega)]
    simp only [Option.bind_some, Int.toNat_natCast]
    refine iter_some (fun (t : List Bool × Int × Int × Nat) => t.1.length = g.Supply.length ∧ (t.2.2.2 : Int) ≤ t.2.1 + 1 ∧ t.2.1 < g.Supply.length ∧ t.2.2.2 ≤ set.length ∧ -(1048576 * (t.2.2.2 : Int)) ≤ t.2.2.1 ∧ t.2.2.1 ≤ 1048576 * (t.2.2.2 : Int))
      (fun t => set.length - t.2.2.2) ?_ FUEL _ ⟨by simp, by simp, by simp only; omega, Nat.zero_le _, by simp, by simp⟩ (FUEL_big (by simp only; omega))
    rintro c ⟨inn, last, sum, i⟩ ⟨hl, hi, hla, his, hs1, hs2⟩ hc
    simp only at hl hi hla his hs1 hs2
    simp only [flow_Excess_b1]
    by_cases hlt : (i : Int) < (set.length : Int)
    · simp only [hlt, decide_true, if_true]
      rw [idx_lt (xs := set) (by omega) hlt]
      simp only [Option.bind_some]
      generalize set.getD ((i : Int).toNat) 0 = x
      by_cases hb : (decide (x ≤ last) || decide ((inn.length : Int) ≤ x)) = true
      · rw [if_pos hb]; exact ⟨_, rfl⟩
      · rw [if_neg hb]
        simp at hb
        have h0 : 0 ≤ x := by omega
        rw [idx_of_lt (xs := inn) h0 (by omega), idx_lt (xs := g.Supply) h0 (by omega)]
        simp only [Option.bind_some]
        have hsup := hg.sup (g.Supply.getD x.toNat 0) (by have h : x.toNat < g.Supply.length := (by omega); simp [h])
        rw [chk_true (i64b_of (by omega) (by omega))]
        exact hc _ ⟨by simp only [List.length_set]; exact hl, by push_cast; omega, by simp only; omega, by simp only; omega, by push_cast; omega, by push_cast; omega⟩ (by simp only; omega)
    · simp only [hlt, decide_false, Bool.false_eq_true, if_false, flow_Excess_k1]
      exact excess2 g hg inn hl sum (by omega)
  · have h1' : checkB g = false := by simpa using h1
    rw [h1']
    simp

theorem excess_eq (g : Graph) (set : List Int) (hs : set.length ≤ 140737488355328) : ref24_Excess_m g set = flow_Excess_m g set := by
  unfold ref24_Excess_m flow_Excess_m
  rw [check_m, checkG_m]
  simp only [Option.bind_some]
  split
  · rfl
  · congr 1
    funext m
    refine iter_sim (fun (s : List Bool × Int × Nat) (t : List Bool × Int × Int × Nat) => s.1 = t.1 ∧ s.2.1 = t.2.2.1 ∧ s.2.2 = t.2.2.2 ∧ t.2.1 = (if t.2.2.2 = 0 then -1 else set.getD (t.2.2.2 - 1) 0) ∧ -1 ≤ t.2.1) ?_ FUEL _ _ ⟨rfl, rfl, rfl, by simp, by simp⟩
    rintro c1 c2 hc ⟨inn, sum, i⟩ ⟨inn', last, sum', i'⟩ ⟨h1, h2, h3, h4, h5⟩
    simp only at h1 h2 h3 h4 h5
    subst h1 h2 h3
    simp only [ref24_Excess_b1, flow_Excess_b1]
    by_cases hlt : (i : Int) < (set.length : Int)
    · simp only [hlt, decide_true, if_true]
      rw [idx_lt (xs := set) (by omega) hlt]
      simp only [Option.bind_some]
      have hxi : set.getD ((i : Int).toNat) 0 = set.getD i 0 := by simp
      rw [hxi]
      generalize hx : set.getD i 0 = x
      rw [chk_true (by rw [i64b_of (by omega) (by omega)]; simp)]
      by_cases e0 : (decide (x < 0) || decide ((inn.length : Int) ≤ x)) = true
      · have : (decide (x ≤ last) || decide ((inn.length : Int) ≤ x)) = true := by simp at e0 ⊢; omega
        rw [if_pos this]
        simp [e0, whn]
      · have e0' : (decide (x < 0) || decide ((inn.length : Int) ≤ x)) = false := by simpa using e0
        simp only [e0', Bool.not_false, Bool.true_and, Bool.false_or]
        have hx0 : 0 ≤ x ∧ x < inn.length := by simp at e0'; omega
        have rest : ∀ o1 o2, ((idx inn x).bind fun (_ : Bool) => (idx g.Supply x).bind fun x18 => chk (i64b (sum + x18)) <| c1 ((inn.set x.toNat true), (sum + x18), i + 1)) = o1 →
            ((idx inn x).bind fun (_ : Bool) => (idx g.Supply x).bind fun x15 => chk (i64b (sum + x15)) <| c2 ((inn.set x.toNat true), x, (sum + x15), i + 1)) = o2 → o1 = o2 := by
          rintro _ _ rfl rfl
          congr 1; funext _; congr 1; funext y
          congr 1
          exact hc _ _ ⟨rfl, rfl, rfl, by simp only [Nat.add_one_ne_zero, if_false, Nat.add_sub_cancel]; exact hx.symm, by simp only; omega⟩
        by_cases hi0 : i = 0
        · subst hi0
          simp only [if_true] at h4
          have e1 : decide ((0 : Int) < ((0 : Nat) : Int)) = false := by simp
          simp only [e1, whn, Option.bind_some, Bool.false_and, Bool.false_eq_true, if_false]
          rw [if_neg (by rw [h4]; simp; omega)]
          exact rest _ _ rfl rfl
        · rw [if_neg hi0] at h4
          have e1 : decide ((0 : Int) < (i : Int)) = true := by simp; omega
          have hprev : idx set ((i : Int) - 1) = some (set.getD (i - 1) 0) := by
            rw [idx_lt (by omega) (by omega)]
            congr 2
            omega
          simp only [e1, whn, hprev, Option.bind_some, Bool.true_and, ← h4]
          have e2 : (decide (x ≤ last) || decide ((inn.length : Int) ≤ x)) = decide (x ≤ last) := by
            have : decide ((inn.length : Int) ≤ x) = false := by simp; omega
            rw [this, Bool.or_false]
          rw [e2]
          by_cases e3 : decide (x ≤ last) = true
          · rw [if_pos e3, if_pos e3]
          · rw [if_neg e3, if_neg e3]
            exact rest _ _ rfl rfl
    · simp only [hlt, decide_false, Bool.false_eq_true, if_false, ref24_Excess_k1, flow_Excess_k1]
      refine iter_sim (fun s t => s = t) ?_ FUEL _ _ rfl
      intro c1 c2 hc s t hst
      subst hst
      obtain ⟨s, j⟩ := s
      simp only [ref24_Excess_b2, flow_Excess_b2, ref24_Excess_k2, flow_Excess_k2, ref24_Excess_k3, flow_Excess_k3]
      split
      · congr 1; funext a
        congr 1; funext b
        congr 1; funext b2
        split
        · congr 1
          exact hc _ _ rfl
        · exact hc _ _ rfl
      · rfl

end Go.Proofs.Ytedocibniankjaa

/- Plain laws of chapter 28: Verify. -/
import Derived.Test.YtedocibniankjaaQg
import Derived.Test.YtedocibniankjaaQv
namespace Go.Proofs.Ytedocibniankjaa
open Go.Dc

theorem marked_wp (l : List Int) (n : Nat) (hn : n ≤ 40) (hl : l.length ≤ 140737488355328) : WP (circulation_marked_m l (n : Int)) (fun y => (y.2 = true ↔ AscL l n) ∧ (y.2 = true → y.1.length = n ∧ ∀ w : Int, 0 ≤ w → w < n → (gb y.1 w = true ↔ w ∈ l))) := by
  unfold circulation_marked_m
  rw [mk_bool (by omega) (by omega)]
  simp only [Option.bind_some]
  refine wp_iter (fun (t : List Bool × Int × Nat) => t.2.2 ≤ l.length ∧ t.1.length = n ∧ -1 ≤ t.2.1 ∧ (t.2.2 = 0 → t.2.1 = -1) ∧ (0 < t.2.2 → t.2.1 = gi l ((t.2.2 : Int) - 1)) ∧
      (∀ i : Int, 0 ≤ i → i < t.2.2 → 0 ≤ gi l i ∧ gi l i < n ∧ (0 < i → gi l (i - 1) < gi l i)) ∧ (∀ w : Int, 0 ≤ w → w < n → (gb t.1 w = true ↔ ∃ i : Int, 0 ≤ i ∧ i < t.2.2 ∧ gi l i = w)))
    (fun t => l.length - t.2.2) _ ?_ FUEL _ ⟨Nat.zero_le _, by simp, by simp only; omega, fun _ => rfl, fun h => by simp only at h; omega, fun i _ i1 => by simp only at i1; omega, fun w w0 w1 => ?_⟩ (fuel_of (by simp only; omega))
  · rintro c ⟨u, last, t⟩ ⟨ht, hul, hla, hl0, hl1, hA, hm⟩ hc
    simp only at ht hul hla hl0 hl1 hA hm hc
    simp only [circulation_marked_b1]
    refine wp_ite (fun h => ?_) (fun h => ?_)
    · simp only [decide_eq_true_eq] at h
      refine wp_idxi (by omega) (wp_ite (fun hb => ?_) (fun hb => ?_))
      · simp only [Bool.or_eq_true, decide_eq_true_eq] at hb
        refine wp_some ⟨⟨fun h => (by cases h), fun A => ?_⟩, fun h => (by cases h)⟩
        obtain ⟨a1, a2, a3⟩ := A t (by omega) (by omega)
        by_cases e : t = 0
        · have := hl0 e; omega
        · have := hl1 (by omega)
          have := a3 (by omega)
          omega
      · simp only [Bool.or_eq_false_iff, decide_eq_false_iff_not] at hb
        have h0 : 0 ≤ gi l t := by omega
        refine wp_idxb (by omega) (hc _ ⟨by simp only; omega, by simp only [List.length_set]; exact hul, by simp only; omega, fun h => by simp only at h; omega, fun _ => by simp only; congr 1; omega, fun i i0 i1 => ?_, fun w w0 w1 => ?_⟩ (by simp only; omega))
        · by_cases e : i = t
          · subst e
            refine ⟨h0, by omega, fun hp => ?_⟩
            have := hl1 (by omega)
            omega
          · exact hA i i0 (by simp only at i1; omega)
        · simp only
          rw [gb_set _ _ _ _ h0 w0 (by omega)]
          by_cases e : w = gi l t
          · rw [if_pos e]; exact ⟨fun _ => ⟨t, by omega, by omega, e.symm⟩, fun _ => rfl⟩
          · rw [if_neg e, hm w w0 w1]
            constructor
            · rintro ⟨i, i0, i1, e'⟩; exact ⟨i, i0, by omega, e'⟩
            · rintro ⟨i, i0, i1, e'⟩
              refine ⟨i, i0, ?_, e'⟩
              have : i ≠ t := fun x => by subst x; exact e e'.symm
              omega
    · simp only [decide_eq_false_iff_not] at h
      obtain rfl : t = l.length := by omega
      refine wp_some ⟨⟨fun _ => hA, fun _ => rfl⟩, fun _ => ⟨hul, fun w w0 w1 => ?_⟩⟩
      simp only
      rw [hm w w0 w1]
      constructor
      · rintro ⟨i, i0, i1, rfl⟩
        have : i.toNat < l.length := by omega
        unfold gi; simp [this]
      · intro hw
        obtain ⟨j, hj, e⟩ := List.mem_iff_getElem.1 hw
        exact ⟨j, by omega, by omega, by unfold gi; simp [hj, e]⟩
  · simp only
    rw [gb_rep _ _ _ w0 (by omega)]
    exact ⟨fun h => (by cases h), fun ⟨a, a0, a1, _⟩ => by omega⟩

theorem asc_wp (l : List Int) (n : Int) (hl : l.length ≤ 140737488355328) : WP (ref24_ascending_m l n) (fun b => b = true ↔ AscL l n) := by
  unfold ref24_ascending_m
  refine wp_iter (fun (t : Nat) => t ≤ l.length ∧ ∀ i : Int, 0 ≤ i → i < t → 0 ≤ gi l i ∧ gi l i < n ∧ (0 < i → gi l (i - 1) < gi l i)) (fun t => l.length - t) _ ?_ FUEL _ ⟨Nat.zero_le _, fun i _ i1 => by omega⟩ (fuel_of (by omega))
  rintro c t ⟨ht, hA⟩ hc
  simp only [ref24_ascending_b1]
  refine wp_ite (fun h => ?_) (fun h => ?_)
  · simp only [decide_eq_true_eq] at h
    refine wp_idxi (by omega) ?_
    have bad : (gi l t < 0 ∨ n ≤ gi l t ∨ ((0 : Int) < t ∧ gi l t ≤ gi l ((t : Int) - 1))) → ¬ AscL l n := fun hb A => by
      obtain ⟨a1, a2, a3⟩ := A t (by omega) (by omega)
      rcases hb with hb | hb | ⟨hb1, hb2⟩
      · omega
      · omega
      · have := a3 hb1; omega
    have good : ¬ gi l t < 0 → ¬ n ≤ gi l t → ((0 : Int) < t → ¬ gi l t ≤ gi l ((t : Int) - 1)) → WP (c (t + 1)) (fun b => b = true ↔ AscL l n) := fun g1 g2 g3 => by
      refine hc _ ⟨by omega, fun i i0 i1 => ?_⟩ (by omega)
      by_cases e : i = t
      · subst e; exact ⟨by omega, by omega, fun hp => by have := g3 hp; omega⟩
      · exact hA i i0 (by omega)
    refine wp_chk (by simp [i64b]; omega) ?_
    refine wp_whn (fun hg => ?_) (fun hg => ?_)
    · simp only [Bool.and_eq_true, Bool.not_eq_true', Bool.or_eq_false_iff, decide_eq_false_iff_not, decide_eq_true_eq] at hg
      refine wp_idxi (by omega) (wp_ite (fun hb => ?_) (fun hb => ?_))
      · simp only [Bool.or_eq_true, Bool.and_eq_true, decide_eq_true_eq] at hb
        exact wp_some ⟨fun h => (by cases h), fun A => (bad (by omega) A).elim⟩
      · simp only [Bool.or_eq_false_iff, Bool.and_eq_false_iff, decide_eq_false_iff_not] at hb
        exact good hg.1.1 hg.1.2 (fun _ => by omega)
    · simp only [Bool.and_eq_false_iff, Bool.not_eq_false', Bool.or_eq_true, decide_eq_true_eq, decide_eq_false_iff_not] at hg
      refine wp_ite (fun hb => ?_) (fun hb => ?_)
      · simp only [Bool.or_eq_true, Bool.and_eq_true, decide_eq_true_eq] at hb
        exact wp_some ⟨fun h => (by cases h), fun A => (bad (by omega) A).elim⟩
      · simp only [Bool.or_eq_false_iff, Bool.and_eq_false_iff, decide_eq_false_iff_not] at hb
        exact good hb.1.1 hb.1.2 (fun hp => by omega)
  · simp only [decide_eq_false_iff_not] at h
    obtain rfl : t = l.length := by omega
    exact wp_some ⟨fun _ => hA, fun _ => rfl⟩

theorem verify_wp {ts : List Task} {r : Rules} (T : TV ts r) (next : List Int) (c : Cover) (h1 : c.Left.length ≤ 140737488355328) (h2 : c.Right.length ≤ 140737488355328) : WP (circulation_Verify_m ts r next c) (fun b => b = true ↔ Cov ts r next c) := by
  have hl := T.len
  unfold circulation_Verify_m
  refine wp_is (by rw [checkT_m, T.h]) ?_
  refine wp_whn (fun _ => ?_) (fun h => by cases h)
  refine wp_bind _ (proper_wp T next) ?_
  intro b hb
  refine wp_ite (fun h => ?_) (fun h => ?_)
  · simp only [Bool.not_true, Bool.false_or, Bool.not_eq_true'] at h
    refine wp_some ⟨fun h => (by cases h), fun C => ?_⟩
    rw [hb.2 C.ci] at h; cases h
  · simp only [Bool.not_true, Bool.false_or, Bool.not_eq_false'] at h
    have C := hb.1 h
    have hlen := C.len
    refine wp_bind _ (marked_wp c.Left ts.length hl h1) ?_
    rintro ⟨lm, lb⟩ ⟨l1, l2⟩
    refine wp_bind _ (marked_wp c.Right ts.length hl h2) ?_
    rintro ⟨rm, rb⟩ ⟨r1, r2⟩
    simp only at l1 l2 r1 r2
    refine wp_ite (fun h => ?_) (fun h => ?_)
    · simp only [Bool.or_eq_true, Bool.not_eq_true'] at h
      refine wp_some ⟨fun h => (by cases h), fun D => ?_⟩
      have e1 := l1.2 D.la
      have e2 := r1.2 D.ra
      rw [e1, e2] at h
      rcases h with h | h <;> cases h
    · simp only [Bool.or_eq_false_iff, Bool.not_eq_false'] at h
      obtain ⟨ll, lm'⟩ := l2 h.1
      obtain ⟨rl, rm'⟩ := r2 h.2
      have AL := l1.1 h.1
      have AR := r1.1 h.2
      refine wp_iter (fun (t : Int × Nat) => t.2 ≤ ts.length ∧ t.1 = jn next t.2 ∧ ∀ a b : Int, 0 ≤ a → a < t.2 → 0 ≤ b → b < ts.length → fok ts r a b = true → a ∈ c.Left ∨ b ∈ c.Right) (fun t => 100 - t.2) _ ?_ FUEL _ ⟨Nat.zero_le _, rfl, fun a b _ a1 => by simp only at a1; omega⟩ (fuel_of (by simp only; omega))
      rintro k ⟨s, t⟩ ⟨ht, hs, hcv⟩ hc
      simp only at ht hs hcv hc
      have jb := jn_bd next t
      simp only [circulation_Verify_b1]
      refine wp_ite (fun h => ?_) (fun h => ?_)
      · simp only [decide_eq_true_eq] at h
        have inner : ∀ s', s' = jn next (t + 1) → WP (circulation_Verify_k3 ts t r (lm, lb) (rm, rb) k s') (fun b => b = true ↔ Cov ts r next c) := by
          intro s' hs'
          simp only [circulation_Verify_k3]
          refine wp_iter (fun (i : Nat) => i ≤ ts.length ∧ ∀ b : Int, 0 ≤ b → b < i → fok ts r t b = true → (t : Int) ∈ c.Left ∨ b ∈ c.Right) (fun i => 100 - i) _ ?_ FUEL _ ⟨Nat.zero_le _, fun b _ b1 => by omega⟩ (fuel_of (by omega))
          rintro k2 i ⟨hi, hcv2⟩ hc2
          simp only [circulation_Verify_b2]
          refine wp_ite (fun h2 => ?_) (fun h2 => ?_)
          · simp only [decide_eq_true_eq] at h2
            refine wp_idxt (by omega) (wp_idxt (by omega) (wp_is (T.fo _ (by omega) (by omega)).1 ?_))
            have next2 : (fok ts r t i = true → (t : Int) ∈ c.Left ∨ (i : Int) ∈ c.Right) → WP (k2 (i + 1)) (fun b => b = true ↔ Cov ts r next c) := fun hh => hc2 _ ⟨by omega, fun b b0 b1 hb => by
              by_cases e : b = i
              · subst e; exact hh hb
              · exact hcv2 b b0 (by omega) hb⟩ (by omega)
            refine wp_whn (fun hf => ?_) (fun hf => ?_)
            · refine wp_idxb (by omega) ?_
              simp only [hf, Bool.true_and]
              refine wp_whn (fun hL => ?_) (fun hL => ?_)
              · refine wp_idxb (by omega) (wp_ite (fun hR => ?_) (fun hR => ?_))
                · simp only [Bool.and_eq_true, Bool.not_eq_true'] at hR
                  refine wp_some ⟨fun h => (by cases h), fun D => ?_⟩
                  rcases D.cv t i (by omega) (by omega) (by omega) (by omega) hf with h' | h'
                  · have := (lm' t (by omega) (by omega)).2 h'
                    rw [hR.1] at this; cases this
                  · have := (rm' i (by omega) (by omega)).2 h'
                    rw [hR.2] at this; cases this
                · rw [hL, Bool.true_and, Bool.not_eq_false'] at hR
                  exact next2 (fun _ => Or.inr ((rm' i (by omega) (by omega)).1 hR))
              · simp only [hL, Bool.false_and]
                simp only [Bool.not_eq_false'] at hL
                exact next2 (fun _ => Or.inl ((lm' t (by omega) (by omega)).1 hL))
            · simp only [hf, Bool.false_and]
              refine wp_whn (fun h => by cases h) (fun _ => wp_ite (fun h => by cases h) (fun _ => next2 (fun h' => ?_)))
              unfold fok at h'
              rw [hf] at h'; cases h'
          · simp only [decide_eq_false_iff_not] at h2
            obtain rfl : i = ts.length := by omega
            simp only [circulation_Verify_k2]
            refine hc _ ⟨by simp only; omega, hs', fun a b a0 a1 b0 b1 hf => ?_⟩ (by simp only; omega)
            by_cases e : a = t
            · subst e; exact hcv2 b b0 b1 hf
            · exact hcv a b a0 (by simp only at a1; omega) b0 b1 hf
        refine wp_idxi (by omega) (wp_ite (fun hx => ?_) (fun hx => ?_))
        · simp only [decide_eq_true_eq] at hx
          refine wp_i64 (by omega) (inner _ ?_)
          unfold jn at hs ⊢
          rw [sumTo, ← hs, if_neg (by omega)]
        · simp only [decide_eq_false_iff_not] at hx
          refine inner _ ?_
          unfold jn at hs ⊢
          have : gi next t = -1 := by
            rcases C.ok t (by omega) (by omega) with h' | ⟨h', _⟩
            · exact h'
            · omega
          rw [sumTo, ← hs, if_pos this]; omega
      · simp only [decide_eq_false_iff_not] at h
        obtain rfl : t = ts.length := by omega
        simp only [circulation_Verify_k1]
        refine wp_i64 (by omega) (wp_some ?_)
        rw [decide_eq_true_eq]
        exact ⟨fun e => ⟨C, AL, AR, by omega, hcv⟩, fun D => by have := D.s; omega⟩

theorem verifyC_wp {ts : List Task} {r : Rules} (T : TV ts r) (next : List Int) (c : Cover) (h0 : next.length ≤ 140737488355328) (h1 : c.Left.length ≤ 140737488355328) (h2 : c.Right.length ≤ 140737488355328) : WP (ref24_VerifyCover_m ts r next c) (fun b => b = true ↔ Cov ts r next c) := by
  have hl := T.len
  unfold ref24_VerifyCover_m
  refine wp_is (by rw [checkTR_m, T.h]) ?_
  refine wp_whn (fun _ => ?_) (fun h => by cases h)
  refine wp_bind _ (circ_wp T next) ?_
  intro b hb
  cases b with
  | false =>
    refine wp_whn (fun h => by simp at h) (fun _ => wp_whn (fun h => by simp at h) (fun _ => ?_))
    refine wp_chk (by simp) (wp_whn (fun h => by simp at h) (fun _ => wp_ite (fun _ => ?_) (fun h => by simp at h)))
    exact wp_some ⟨fun h => (by cases h), fun D => hb.2 D.ci⟩
  | true =>
    have C := hb.1 rfl
    have hlen := C.len
    refine wp_whn (fun _ => ?_) (fun h => by simp at h)
    refine wp_bind _ (asc_wp c.Left ts.length h1) ?_
    intro b2 hb2
    cases b2 with
    | false =>
      refine wp_whn (fun h => by simp at h) (fun _ => ?_)
      refine wp_chk (by simp) (wp_whn (fun h => by simp at h) (fun _ => wp_ite (fun _ => ?_) (fun h => by simp at h)))
      exact wp_some ⟨fun h => (by cases h), fun D => hb2.2 D.la⟩
    | true =>
      refine wp_whn (fun _ => ?_) (fun h => by simp at h)
      refine wp_bind _ (asc_wp c.Right ts.length h2) ?_
      intro b3 hb3
      cases b3 with
      | false =>
        refine wp_chk (by simp) (wp_whn (fun h => by simp at h) (fun _ => wp_ite (fun _ => ?_) (fun h => by simp at h)))
        exact wp_some ⟨fun h => (by cases h), fun D => hb3.2 D.ra⟩
      | true =>
        refine wp_chk (by simp [i64b]; omega) (wp_whn (fun _ => ?_) (fun h => by simp at h))
        refine wp_bind _ (joined_wp next h0) ?_
        rintro _ rfl
        rw [hlen]
        refine wp_ite (fun h => ?_) (fun h => ?_)
        · simp only [Bool.not_true, Bool.false_or, decide_eq_true_eq] at h
          exact wp_some ⟨fun h => (by cases h), fun D => absurd D.s h⟩
        · simp only [Bool.not_true, Bool.false_or, decide_eq_false_iff_not, Decidable.not_not] at h
          refine wp_iter (fun (t : Nat) => t ≤ ts.length ∧ ∀ a b : Int, 0 ≤ a → a < t → 0 ≤ b → b < ts.length → fok ts r a b = true → a ∈ c.Left ∨ b ∈ c.Right) (fun t => 100 - t) _ ?_ FUEL _ ⟨Nat.zero_le _, fun a b _ a1 => by omega⟩ (fuel_of (by omega))
          rintro k t ⟨ht, hcv⟩ hc
          simp only [ref24_VerifyCover_b1]
          refine wp_ite (fun h => ?_) (fun h => ?_)
          · simp only [decide_eq_true_eq] at h
            refine wp_iter (fun (i : Nat) => i ≤ ts.length ∧ ∀ b : Int, 0 ≤ b → b < i → fok ts r t b = true → (t : Int) ∈ c.Left ∨ b ∈ c.Right) (fun i => 100 - i) _ ?_ FUEL _ ⟨Nat.zero_le _, fun b _ b1 => by omega⟩ (fuel_of (by omega))
            rintro k2 i ⟨hi, hcv2⟩ hc2
            simp only [ref24_VerifyCover_b2]
            refine wp_ite (fun h3 => ?_) (fun h3 => ?_)
            · simp only [decide_eq_true_eq] at h3
              refine wp_idxt (by omega) (wp_idxt (by omega) (wp_is (T.fo _ (by omega) (by omega)).2 ?_))
              have next2 : (fok ts r t i = true → (t : Int) ∈ c.Left ∨ (i : Int) ∈ c.Right) → WP (k2 (i + 1)) (fun b => b = true ↔ Cov ts r next c) := fun hh => hc2 _ ⟨by omega, fun b b0 b1 hb => by
                by_cases e : b = i
                · subst e; exact hh hb
                · exact hcv2 b b0 (by omega) hb⟩ (by omega)
              refine wp_whn (fun hf => ?_) (fun hf => ?_)
              · refine wp_bind _ (member_wp c.Left t h1) ?_
                intro m1 hm1
                simp only [hf, Bool.true_and]
                refine wp_whn (fun hL => ?_) (fun hL => ?_)
                · refine wp_bind _ (member_wp c.Right i h2) ?_
                  intro m2 hm2
                  simp only [Bool.not_eq_true'] at hL
                  subst hL
                  refine wp_ite (fun hR => ?_) (fun hR => ?_)
                  · simp only [Bool.not_false, Bool.true_and, Bool.not_eq_true'] at hR
                    subst hR
                    refine wp_some ⟨fun h => (by cases h), fun D => ?_⟩
                    rcases D.cv t i (by omega) (by omega) (by omega) (by omega) hf with h' | h'
                    · exact hm1.2 h'
                    · exact hm2.2 h'
                  · simp only [Bool.not_false, Bool.true_and, Bool.not_eq_false'] at hR
                    exact next2 (fun _ => Or.inr (hm2.1 hR))
                · simp only [Bool.not_eq_false'] at hL
                  subst hL
                  exact next2 (fun _ => Or.inl (hm1.1 rfl))
              · simp only [hf, Bool.false_and]
                refine wp_whn (fun h => by cases h) (fun _ => wp_ite (fun h => by cases h) (fun _ => next2 (fun h' => ?_)))
                unfold fok at h'
                rw [hf] at h'; cases h'
            · simp only [decide_eq_false_iff_not] at h3
              obtain rfl : i = ts.length := by omega
              simp only [ref24_VerifyCover_k2]
              refine hc _ ⟨by omega, fun a b a0 a1 b0 b1 hf => ?_⟩ (by omega)
              by_cases e : a = t
              · subst e; exact hcv2 b b0 b1 hf
              · exact hcv a b a0 (by omega) b0 b1 hf
          · simp only [decide_eq_false_iff_not] at h
            obtain rfl : t = ts.length := by omega
            exact wp_some ⟨fun _ => ⟨C, hb2.1 rfl, hb3.1 rfl, by omega, hcv⟩, fun _ => rfl⟩
end Go.Proofs.Ytedocibniankjaa

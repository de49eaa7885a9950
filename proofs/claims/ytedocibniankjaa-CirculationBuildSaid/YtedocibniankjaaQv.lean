/- Plain laws of chapter 28: proper circulations, empty seconds. -/
import Derived.Test.YtedocibniankjaaQe
import Derived.Test.YtedocibniankjaaCw
namespace Go.Proofs.Ytedocibniankjaa
open Go.Dc

/-- The same as far as a number. -/
structure CircP (ts : List Task) (r : Rules) (next : List Int) (t : Int) (used : Int → Bool) : Prop where
  ok : ∀ a : Int, 0 ≤ a → a < t → gi next a = -1 ∨ (0 ≤ gi next a ∧ gi next a < ts.length ∧ fok ts r a (gi next a) = true)
  inj : ∀ a b : Int, 0 ≤ a → a < t → 0 ≤ b → b < t → gi next a = gi next b → gi next a ≠ -1 → a = b
  us : ∀ w : Int, 0 ≤ w → w < ts.length → (used w = true ↔ ∃ a : Int, 0 ≤ a ∧ a < t ∧ gi next a = w)

theorem CircP.skip {ts : List Task} {r : Rules} {next : List Int} {t : Int} {used : Int → Bool} (C : CircP ts r next t used) (h : gi next t = -1) : CircP ts r next (t + 1) used := by
  refine ⟨fun a a0 a1 => ?_, fun a b a0 a1 b0 b1 e hne => ?_, fun w w0 w1 => ?_⟩
  · by_cases e : a = t
    · subst e; exact Or.inl h
    · exact C.ok a a0 (by omega)
  · have h1 : a ≠ t := fun x => by subst x; exact hne h
    have h2 : b ≠ t := fun x => by subst x; exact hne (e.trans h)
    exact C.inj a b a0 (by omega) b0 (by omega) e hne
  · rw [C.us w w0 w1]
    constructor
    · rintro ⟨a, a0, a1, e⟩; exact ⟨a, a0, by omega, e⟩
    · rintro ⟨a, a0, a1, e⟩
      refine ⟨a, a0, ?_, e⟩
      have : a ≠ t := fun x => by subst x; omega
      omega
theorem CircP.mark {ts : List Task} {r : Rules} {next : List Int} {t : Int} {used used' : Int → Bool} (C : CircP ts r next t used) (t0 : 0 ≤ t) (h0 : 0 ≤ gi next t) (h1 : gi next t < ts.length) (hf : fok ts r t (gi next t) = true) (hu : used (gi next t) = false)
    (hu' : ∀ w : Int, 0 ≤ w → used' w = if w = gi next t then true else used w) : CircP ts r next (t + 1) used' := by
  have hno : ∀ a : Int, 0 ≤ a → a < t → gi next a ≠ gi next t := fun a a0 a1 e => by
    have := (C.us _ h0 h1).2 ⟨a, a0, a1, e⟩
    rw [hu] at this; cases this
  refine ⟨fun a a0 a1 => ?_, fun a b a0 a1 b0 b1 e hne => ?_, fun w w0 w1 => ?_⟩
  · by_cases e : a = t
    · subst e; exact Or.inr ⟨h0, h1, hf⟩
    · exact C.ok a a0 (by omega)
  · by_cases h1 : a = t
    · by_cases h2 : b = t
      · omega
      · subst h1; exact absurd e.symm (hno b b0 (by omega))
    · by_cases h2 : b = t
      · subst h2; exact absurd e (hno a a0 (by omega))
      · exact C.inj a b a0 (by omega) b0 (by omega) e hne
  · rw [hu' w w0]
    by_cases e : w = gi next t
    · rw [if_pos e]; exact ⟨fun _ => ⟨t, t0, by omega, e.symm⟩, fun _ => rfl⟩
    · rw [if_neg e, C.us w w0 w1]
      constructor
      · rintro ⟨a, a0, a1, e⟩; exact ⟨a, a0, by omega, e⟩
      · rintro ⟨a, a0, a1, e'⟩
        refine ⟨a, a0, ?_, e'⟩
        have : a ≠ t := fun x => by subst x; exact e e'.symm
        omega

theorem proper_wp {ts : List Task} {r : Rules} (T : TV ts r) (next : List Int) : WP (circulation_proper_m ts r next) (fun b => b = true ↔ Circ ts r next) := by
  have hl := T.len
  unfold circulation_proper_m
  refine wp_ite (fun h => ?_) (fun h => ?_)
  · simp only [decide_eq_true_eq] at h
    exact wp_some ⟨fun h => (by cases h), fun C => by have := C.len; omega⟩
  · simp only [decide_eq_false_iff_not, Decidable.not_not] at h
    have hlen : next.length = ts.length := by omega
    rw [mk_bool (by omega) (by omega)]
    simp only [Option.bind_some]
    refine wp_iter (fun (t : List Bool × Nat) => t.2 ≤ ts.length ∧ t.1.length = ts.length ∧ CircP ts r next t.2 (gb t.1)) (fun t => 100 - t.2) _ ?_ FUEL _ ⟨Nat.zero_le _, by simp, ⟨fun a _ a1 => by simp only at a1; omega, fun a b _ a1 => by simp only at a1; omega, fun w w0 w1 => ?_⟩⟩ (fuel_of (by simp only; omega))
    · rintro c ⟨u, t⟩ ⟨ht, hul, C⟩ hc
      simp only at ht hul C hc
      simp only [circulation_proper_b1]
      refine wp_ite (fun h => ?_) (fun h => ?_)
      · simp only [decide_eq_true_eq] at h
        have ec : ((t + 1 : Nat) : Int) = (t : Int) + 1 := by omega
        refine wp_idxi (by omega) (wp_ite (fun hx => ?_) (fun hx => ?_))
        · simp only [decide_eq_true_eq] at hx
          exact hc _ ⟨by simp only; omega, hul, by simp only; rw [ec]; exact C.skip hx⟩ (by simp only; omega)
        · simp only [decide_eq_false_iff_not] at hx
          have bad : ∀ {x : Prop}, (gi next t < 0 ∨ (ts.length : Int) ≤ gi next t ∨ gb u (gi next t) = true ∨ fok ts r t (gi next t) = false) → Circ ts r next → x := by
            intro x hb D
            rcases D.ok t (by omega) (by omega) with h' | ⟨h0, h1, h2⟩
            · exact absurd h' hx
            · rcases hb with hb | hb | hb | hb
              · omega
              · omega
              · obtain ⟨a, a0, a1, e⟩ := (C.us _ h0 h1).1 hb
                have := D.inj a t a0 (by omega) (by omega) (by omega) e (by omega)
                omega
              · rw [h2] at hb; cases hb
          refine wp_whn (fun hg => ?_) (fun hg => ?_)
          · simp only [Bool.not_eq_true', Bool.or_eq_false_iff, decide_eq_false_iff_not] at hg
            refine wp_idxb (by omega) (wp_ite (fun hb => ?_) (fun hb => ?_))
            · simp only [Bool.or_eq_true, decide_eq_true_eq] at hb
              exact wp_some ⟨fun h => (by cases h), fun D => bad (hb.elim (fun h => h.elim Or.inl (fun h => Or.inr (Or.inl h))) (fun h => Or.inr (Or.inr (Or.inl h)))) D⟩
            · simp only [Bool.or_eq_false_iff, decide_eq_false_iff_not] at hb
              refine wp_idxt (by omega) (wp_idxt (by omega) (wp_is (T.fo _ (by omega) (by omega)).1 (wp_ite (fun hf => ?_) (fun hf => ?_))))
              · simp only [Bool.not_eq_true'] at hf
                exact wp_some ⟨fun h => (by cases h), fun D => bad (Or.inr (Or.inr (Or.inr hf))) D⟩
              · simp only [Bool.not_eq_false'] at hf
                refine wp_idxb (by omega) (hc _ ⟨by simp only; omega, by simp only [List.length_set]; exact hul, ?_⟩ (by simp only; omega))
                simp only
                rw [ec]
                exact C.mark (by omega) (by omega) (by omega) hf hb.2 (fun w w0 => gb_set _ _ _ _ (by omega) w0 (by omega))
          · simp only [Bool.not_eq_false', Bool.or_eq_true, decide_eq_true_eq] at hg
            refine wp_ite (fun _ => ?_) (fun hb => ?_)
            · exact wp_some ⟨fun h => (by cases h), fun D => bad (by omega) D⟩
            · simp only [Bool.or_eq_false_iff, decide_eq_false_iff_not] at hb
              omega
      · simp only [decide_eq_false_iff_not] at h
        obtain rfl : t = ts.length := by omega
        exact wp_some ⟨fun _ => ⟨hlen, C.ok, C.inj⟩, fun _ => rfl⟩
    · simp only
      rw [gb_rep _ _ _ w0 (by omega)]
      exact ⟨fun h => (by cases h), fun ⟨a, a0, a1, _⟩ => by omega⟩

theorem circ_wp {ts : List Task} {r : Rules} (T : TV ts r) (next : List Int) : WP (ref24_Circulation_m ts r next) (fun b => b = true ↔ Circ ts r next) := by
  have hl := T.len
  unfold ref24_Circulation_m
  refine wp_ite (fun h => ?_) (fun h => ?_)
  · simp only [decide_eq_true_eq] at h
    exact wp_some ⟨fun h => (by cases h), fun C => by have := C.len; omega⟩
  · simp only [decide_eq_false_iff_not, Decidable.not_not] at h
    have hlen : next.length = ts.length := by omega
    refine wp_iter (fun (t : List Bool × Nat) => t.2 ≤ ts.length ∧ t.1.length = 40 ∧ CircP ts r next t.2 (gb t.1)) (fun t => 100 - t.2) _ ?_ FUEL _ ⟨Nat.zero_le _, by simp, ⟨fun a _ a1 => by simp only at a1; omega, fun a b _ a1 => by simp only at a1; omega, fun w w0 w1 => ?_⟩⟩ (fuel_of (by simp only; omega))
    · rintro c ⟨u, t⟩ ⟨ht, hul, C⟩ hc
      simp only at ht hul C hc
      simp only [ref24_Circulation_b1]
      refine wp_ite (fun h => ?_) (fun h => ?_)
      · simp only [decide_eq_true_eq] at h
        have ec : ((t + 1 : Nat) : Int) = (t : Int) + 1 := by omega
        refine wp_idxi (by omega) (wp_ite (fun hx => ?_) (fun hx => ?_))
        · simp only [decide_eq_true_eq] at hx
          exact hc _ ⟨by simp only; omega, hul, by simp only; rw [ec]; exact C.skip hx⟩ (by simp only; omega)
        · simp only [decide_eq_false_iff_not] at hx
          have bad : ∀ {x : Prop}, (gi next t < 0 ∨ (ts.length : Int) ≤ gi next t ∨ gb u (gi next t) = true ∨ fok ts r t (gi next t) = false) → Circ ts r next → x := by
            intro x hb D
            rcases D.ok t (by omega) (by omega) with h' | ⟨h0, h1, h2⟩
            · exact absurd h' hx
            · rcases hb with hb | hb | hb | hb
              · omega
              · omega
              · obtain ⟨a, a0, a1, e⟩ := (C.us _ h0 h1).1 hb
                have := D.inj a t a0 (by omega) (by omega) (by omega) e (by omega)
                omega
              · rw [h2] at hb; cases hb
          refine wp_whn (fun hg => ?_) (fun hg => ?_)
          · simp only [Bool.not_eq_true', Bool.or_eq_false_iff, decide_eq_false_iff_not] at hg
            refine wp_idxb (by omega) (wp_ite (fun hb => ?_) (fun hb => ?_))
            · simp only [Bool.or_eq_true, decide_eq_true_eq] at hb
              exact wp_some ⟨fun h => (by cases h), fun D => bad (hb.elim (fun h => h.elim Or.inl (fun h => Or.inr (Or.inl h))) (fun h => Or.inr (Or.inr (Or.inl h)))) D⟩
            · simp only [Bool.or_eq_false_iff, decide_eq_false_iff_not] at hb
              refine wp_idxb (by omega) (wp_idxt (by omega) (wp_idxt (by omega) (wp_is (T.fo _ (by omega) (by omega)).2 (wp_ite (fun hf => ?_) (fun hf => ?_)))))
              · simp only [Bool.not_eq_true'] at hf
                exact wp_some ⟨fun h => (by cases h), fun D => bad (Or.inr (Or.inr (Or.inr hf))) D⟩
              · simp only [Bool.not_eq_false'] at hf
                refine hc _ ⟨by simp only; omega, by simp only [List.length_set]; exact hul, ?_⟩ (by simp only; omega)
                simp only
                rw [ec]
                exact C.mark (by omega) (by omega) (by omega) hf hb.2 (fun w w0 => gb_set _ _ _ _ (by omega) w0 (by omega))
          · simp only [Bool.not_eq_false', Bool.or_eq_true, decide_eq_true_eq] at hg
            refine wp_ite (fun _ => ?_) (fun hb => ?_)
            · exact wp_some ⟨fun h => (by cases h), fun D => bad (by omega) D⟩
            · simp only [Bool.or_eq_false_iff, decide_eq_false_iff_not] at hb
              omega
      · simp only [decide_eq_false_iff_not] at h
        obtain rfl : t = ts.length := by omega
        exact wp_some ⟨fun _ => ⟨hlen, C.ok, C.inj⟩, fun _ => rfl⟩
    · simp only
      rw [gb_rep _ _ _ w0 (by omega)]
      exact ⟨fun h => (by cases h), fun ⟨a, a0, a1, _⟩ => by omega⟩

theorem empty_wp {ts : List Task} {r : Rules} (T : TV ts r) (next : List Int) : WP (circulation_Empty_m ts r next) (fun y => (Circ ts r next → y = (emp ts r next ts.length, 0)) ∧ (¬ Circ ts r next → y = (0, 1))) := by
  have hl := T.len
  unfold circulation_Empty_m
  refine wp_is (by rw [checkT_m, T.h]) ?_
  refine wp_whn (fun _ => ?_) (fun h => by cases h)
  refine wp_bind _ (proper_wp T next) ?_
  intro b hb
  refine wp_ite (fun h => ?_) (fun h => ?_)
  · simp only [Bool.not_true, Bool.false_or, Bool.not_eq_true'] at h
    refine wp_some ⟨fun C => ?_, fun _ => rfl⟩
    rw [hb.2 C] at h; cases h
  · simp only [Bool.not_true, Bool.false_or, Bool.not_eq_false'] at h
    have C := hb.1 h
    have hlen := C.len
    refine wp_iter (fun (t : Int × Nat) => t.2 ≤ ts.length ∧ t.1 = emp ts r next t.2) (fun t => 100 - t.2) _ ?_ FUEL _ ⟨Nat.zero_le _, rfl⟩ (fuel_of (by simp only; omega))
    rintro c ⟨s, t⟩ ⟨ht, hs⟩ hc
    simp only at ht hs hc
    have eb := emp_bd T next t
    simp only [circulation_Empty_b1]
    refine wp_ite (fun h => ?_) (fun h => ?_)
    · simp only [decide_eq_true_eq] at h
      have sb := T.sec t (gi next t)
      refine wp_idxi (by omega) (wp_ite (fun hx => ?_) (fun hx => ?_))
      · simp only [decide_eq_true_eq] at hx
        have hlt : gi next t < ts.length := by
          rcases C.ok t (by omega) (by omega) with h' | ⟨_, h1, _⟩ <;> omega
        refine wp_idxt (by omega) (wp_idxt (by omega) (wp_is (T.fo _ (by omega) (by omega)).1 (wp_i64 (by omega) (hc _ ⟨by simp only; omega, ?_⟩ (by simp only; omega)))))
        simp only
        unfold emp at hs ⊢
        rw [sumTo, ← hs, if_pos hx]; rfl
      · simp only [decide_eq_false_iff_not] at hx
        refine hc _ ⟨by simp only; omega, ?_⟩ (by simp only; omega)
        simp only
        unfold emp at hs ⊢
        rw [sumTo, ← hs, if_neg hx]; omega
    · simp only [decide_eq_false_iff_not] at h
      obtain rfl : t = ts.length := by omega
      refine wp_some ⟨fun _ => by rw [hs], fun h' => absurd C h'⟩

theorem emptyS_wp {ts : List Task} {r : Rules} (T : TV ts r) (next : List Int) : WP (ref24_EmptySeconds_m ts r next) (fun y => (Circ ts r next → y = (emp ts r next ts.length, 0)) ∧ (¬ Circ ts r next → y = (0, 1))) := by
  have hl := T.len
  unfold ref24_EmptySeconds_m
  refine wp_is (by rw [checkTR_m, T.h]) ?_
  refine wp_whn (fun _ => ?_) (fun h => by cases h)
  refine wp_bind _ (circ_wp T next) ?_
  intro b hb
  refine wp_ite (fun h => ?_) (fun h => ?_)
  · simp only [Bool.not_true, Bool.false_or, Bool.not_eq_true'] at h
    refine wp_some ⟨fun C => ?_, fun _ => rfl⟩
    rw [hb.2 C] at h; cases h
  · simp only [Bool.not_true, Bool.false_or, Bool.not_eq_false'] at h
    have C := hb.1 h
    have hlen := C.len
    refine wp_iter (fun (t : Int × Nat) => t.2 ≤ ts.length ∧ t.1 = emp ts r next t.2) (fun t => 100 - t.2) _ ?_ FUEL _ ⟨Nat.zero_le _, rfl⟩ (fuel_of (by simp only; omega))
    rintro c ⟨s, t⟩ ⟨ht, hs⟩ hc
    simp only at ht hs hc
    have eb := emp_bd T next t
    simp only [ref24_EmptySeconds_b1]
    refine wp_ite (fun h => ?_) (fun h => ?_)
    · simp only [decide_eq_true_eq] at h
      have sb := T.sec t (gi next t)
      refine wp_idxi (by omega) (wp_ite (fun hx => ?_) (fun hx => ?_))
      · simp only [decide_eq_true_eq] at hx
        have hlt : gi next t < ts.length := by
          rcases C.ok t (by omega) (by omega) with h' | ⟨_, h1, _⟩ <;> omega
        refine wp_idxt (by omega) (wp_idxt (by omega) (wp_is (T.fo _ (by omega) (by omega)).2 (wp_i64 (by omega) (hc _ ⟨by simp only; omega, ?_⟩ (by simp only; omega)))))
        simp only
        unfold emp at hs ⊢
        rw [sumTo, ← hs, if_pos hx]; rfl
      · simp only [decide_eq_false_iff_not] at hx
        refine hc _ ⟨by simp only; omega, ?_⟩ (by simp only; omega)
        simp only
        unfold emp at hs ⊢
        rw [sumTo, ← hs, if_neg hx]; omega
    · simp only [decide_eq_false_iff_not] at h
      obtain rfl : t = ts.length := by omega
      refine wp_some ⟨fun _ => by rw [hs], fun h' => absurd C h'⟩
end Go.Proofs.Ytedocibniankjaa

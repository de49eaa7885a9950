/- Plain laws of chapter 28: Chains. -/
import Derived.Test.YtedocibniankjaaPf
namespace Go.Proofs.Ytedocibniankjaa
open Go.Dc

/-- Different numbers below n are at most n. -/
theorem nodup_le : ∀ (n : Nat) (c : List Int), c.Nodup → (∀ x ∈ c, 0 ≤ x ∧ x < (n : Int)) → c.length ≤ n := by
  intro n
  induction n with
  | zero =>
    intro c _ h
    cases c with
    | nil => simp
    | cons x r => have := h x (by simp); omega
  | succ n ih =>
    intro c hn h
    by_cases hm : (n : Int) ∈ c
    · have h1 := ih (c.erase (n : Int)) (hn.erase _) (fun x hx => by
        have hx' := (hn.mem_erase_iff).1 hx
        have := h x hx'.2
        have := hx'.1
        omega)
      rw [List.length_erase_of_mem hm] at h1
      omega
    · have h1 := ih c hn (fun x hx => by
        have := h x hx
        have : x ≠ (n : Int) := fun e => hm (e ▸ hx)
        omega)
      omega

/-- What is known of the numbers before i. -/
def NInv (next : List Int) (fo : List Bool) (i : Nat) : Prop :=
  (∀ k, k < i → next.getD k 0 = -1 ∨ (0 ≤ next.getD k 0 ∧ next.getD k 0 < next.length ∧ fo.getD (next.getD k 0).toNat false = true)) ∧
  (∀ j k, j < i → k < i → next.getD j 0 = next.getD k 0 → next.getD j 0 ≠ -1 → j = k)

theorem NInv.skip {next : List Int} {fo : List Bool} {i : Nat} (h : NInv next fo i) (hx : next.getD i 0 = -1) : NInv next fo (i + 1) := by
  refine ⟨fun k hk => ?_, fun j k hj hk e hne => ?_⟩
  · by_cases h' : k = i
    · subst h'; exact .inl hx
    · exact h.1 k (by omega)
  · by_cases h1 : j = i
    · subst h1; exact absurd hx hne
    · by_cases h2 : k = i
      · subst h2; rw [e] at hne; exact absurd hx hne
      · exact h.2 j k (by omega) (by omega) e hne

theorem NInv.mark {next : List Int} {fo : List Bool} {i : Nat} (h : NInv next fo i) (hl : fo.length = next.length) (h0 : 0 ≤ next.getD i 0) (h1 : next.getD i 0 < next.length) (hf : fo.getD (next.getD i 0).toNat false = false) :
    NInv next (fo.set (next.getD i 0).toNat true) (i + 1) := by
  refine ⟨fun k hk => ?_, fun j k hj hk e hne => ?_⟩
  · by_cases h' : k = i
    · subst h'
      refine .inr ⟨h0, h1, ?_⟩
      rw [getD_set, if_pos ⟨rfl, by omega⟩]
    · rcases h.1 k (by omega) with h2 | ⟨a, b, c⟩
      · exact .inl h2
      · refine .inr ⟨a, b, ?_⟩
        rw [getD_set]
        split
        · rfl
        · exact c
  · by_cases e1 : j = i
    · by_cases e2 : k = i
      · omega
      · subst e1
        rcases h.1 k (by omega) with h2 | ⟨a, b, c⟩
        · rw [← e] at h2; exact absurd h2 hne
        · rw [← e, hf] at c; cases c
    · by_cases e2 : k = i
      · subst e2
        rcases h.1 j (by omega) with h2 | ⟨a, b, c⟩
        · exact absurd h2 hne
        · rw [e, hf] at c; cases c
      · exact h.2 j k (by omega) (by omega) e hne

/-- The path so far. -/
def Path (next : List Int) (first : Int) (c : List Int) (a : Int) : Prop :=
  c.Nodup ∧ (∀ x ∈ c, 0 ≤ x ∧ x < (next.length : Int)) ∧ (a = -1 ∨ (0 ≤ a ∧ a < (next.length : Int) ∧ a ∉ c)) ∧
  (∀ x ∈ c, x = first ∨ ∃ y ∈ c, next.getD y.toNat 0 = x) ∧ (a = first ∨ ∃ y ∈ c, next.getD y.toNat 0 = a)

theorem Path.step {next : List Int} {fo : List Bool} {first : Nat} (hn : NInv next fo next.length) (hf : fo.getD first false = false) {c : List Int} {a : Int} (h : Path next first c a) (ha : a ≠ -1) :
    Path next first (c ++ [a]) (next.getD a.toNat 0) := by
  obtain ⟨h1, h2, h3, h4, h5⟩ := h
  have h3' : 0 ≤ a ∧ a < (next.length : Int) ∧ a ∉ c := h3.resolve_left ha
  have hall : ∀ x ∈ c ++ [a], 0 ≤ x ∧ x < (next.length : Int) := by
    intro x hx
    rcases List.mem_append.1 hx with hx | hx
    · exact h2 x hx
    · simp at hx; subst hx; exact ⟨h3'.1, h3'.2.1⟩
  have hpred : ∀ x ∈ c ++ [a], x = first ∨ ∃ y ∈ c, next.getD y.toNat 0 = x := by
    intro x hx
    rcases List.mem_append.1 hx with hx | hx
    · exact h4 x hx
    · simp at hx; subst hx; exact h5
  refine ⟨?_, hall, ?_, fun x hx => ?_, .inr ⟨a, by simp, rfl⟩⟩
  · rw [List.nodup_append]
    refine ⟨h1, by simp, ?_⟩
    intro x hx y hy
    simp at hy
    subst hy
    exact fun e => h3'.2.2 (e ▸ hx)
  · rcases hn.1 a.toNat (by omega) with e | ⟨e1, e2, e3⟩
    · exact .inl e
    · refine .inr ⟨e1, e2, fun hm => ?_⟩
      rcases hpred _ hm with e | ⟨y, hy, e⟩
      · rw [e] at e3
        simp only [Int.toNat_natCast] at e3
        rw [hf] at e3
        cases e3
      · have hy' := h2 y hy
        have : y.toNat = a.toNat := hn.2 y.toNat a.toNat (by omega) (by omega) e (by rw [e]; omega)
        have : y = a := by omega
        subst this
        exact h3'.2.2 hy
  · rcases hpred x hx with e | ⟨y, hy, e⟩
    · exact .inl e
    · exact .inr ⟨y, by simp [hy], e⟩

theorem rep_getD (m k : Nat) : (List.replicate m false).getD k false = false := by
  rw [List.getD_eq_getElem?_getD, List.getElem?_replicate]
  split <;> rfl
theorem idx_getD {l : List Int} {i : Nat} {x : Int} (h : idx l (i : Int) = some x) : l.getD i 0 = x := by
  rw [idx_nat] at h
  simp [h]

/-- What comes out is small. -/
def ChB (n : Nat) (ch : List (List Int)) : Prop := ch.length ≤ n ∧ ∀ c ∈ ch, c.length ≤ 40

theorem chains_3 (next : List Int) (fo : List Bool) (hl : next.length ≤ 40) (hn : NInv next fo next.length) (chains : List (List Int)) (count : Int) (cont2 : (List (List Int) × Int × Nat) → Option (List (List Int) × Int)) (i : Nat) (hi : i < next.length) (hf : fo.getD i false = false)
    (hcl : ChB i chains) (hc0 : 0 ≤ count ∧ count ≤ 40 * (i : Int)) (hc : ∀ ch ct, ChB (i + 1) ch → 0 ≤ ct ∧ ct ≤ 40 * ((i + 1 : Nat) : Int) → ∃ y, cont2 (ch, ct, i + 1) = some y ∧ ChB 40 y.1) :
    ∃ y, iter (circulation_Chains_b3 next chains count cont2 i) FUEL (([] : List Int), (i : Int)) = some y ∧ ChB 40 y.1 := by
  refine iter_post (fun (s : List Int × Int) => Path next i s.1 s.2) (fun s => next.length - s.1.length + (if s.2 = -1 then 0 else 1)) (fun (y : List (List Int) × Int) => ChB 40 y.1) ?_ FUEL _ ⟨by simp, by simp, .inr ⟨by simp only; omega, by simp only; omega, by simp⟩, by simp, .inl rfl⟩ (FUEL_big (by simp only; split <;> omega))
  rintro c ⟨ch, a⟩ hP hcc
  simp only at hP hcc
  simp only [circulation_Chains_b3]
  have hlen := nodup_le next.length ch hP.1 hP.2.1
  by_cases ha : a = -1
  · simp only [ha, ne_eq, not_true_eq_false, decide_false, Bool.false_eq_true, if_false, circulation_Chains_k5, circulation_Chains_k4]
    have hcl' := hcl.1
    rw [chk_true (by simp; omega), chk_true (i64b_of (by omega) (by omega))]
    refine hc _ _ ⟨by simp; omega, fun x hx => ?_⟩ (by omega)
    rcases List.mem_append.1 hx with hx | hx
    · exact hcl.2 x hx
    · simp at hx; subst hx; omega
  · have hP' := hP.step hn hf ha
    have hr := hP.2.2.1.resolve_left ha
    have hlen' := nodup_le next.length _ hP'.1 hP'.2.1
    simp only [List.length_append, List.length_singleton] at hlen'
    simp only [ha, ne_eq, not_false_eq_true, decide_true, if_true]
    rw [chk_true (by simp; omega), idx_lt hr.1 hr.2.1]
    simp only [Option.bind_some]
    refine hcc _ hP' ?_
    simp only [List.length_append, List.length_singleton, ha, if_false]
    split <;> omega

theorem chains_2 (next : List Int) (fo : List Bool) (hl : next.length ≤ 40) (hfl : fo.length = next.length) (hn : NInv next fo next.length) :
    ∃ y, iter (circulation_Chains_b2 next fo) FUEL (([] : List (List Int)), 0, 0) = some y ∧ ChB 40 y.1 := by
  refine iter_post (fun (s : List (List Int) × Int × Nat) => ChB s.2.2 s.1 ∧ s.2.2 ≤ next.length ∧ 0 ≤ s.2.1 ∧ s.2.1 ≤ 40 * (s.2.2 : Int)) (fun s => next.length - s.2.2) (fun (y : List (List Int) × Int) => ChB 40 y.1) ?_ FUEL _ ⟨⟨by simp, by simp⟩, by simp, by simp, by simp⟩ (FUEL_big (by simp only; omega))
  rintro c ⟨ch, ct, i⟩ ⟨h1, h2, h3, h4⟩ hc
  simp only at h1 h2 h3 h4 hc
  simp only [circulation_Chains_b2]
  by_cases h : i < next.length
  · have h' : (i : Int) < (next.length : Int) := by omega
    simp only [h', decide_true, if_true]
    rw [idx_of_lt (by omega) (by omega)]
    simp only [Option.bind_some, Int.toNat_natCast]
    have hd : (default : Bool) = false := rfl
    rw [hd]
    cases hf : fo.getD i false
    · simp only [Bool.false_eq_true, if_false]
      exact chains_3 next fo hl hn ch ct c i h hf h1 ⟨h3, h4⟩ (fun ch' ct' a b => hc (ch', ct', i + 1) ⟨a, by simp only; omega, b.1, b.2⟩ (by simp only; omega))
    · simp only [if_true, circulation_Chains_k4]
      exact hc (ch, ct, i + 1) ⟨⟨by have := h1.1; simp only; omega, h1.2⟩, by simp only; omega, h3, by simp only; omega⟩ (by simp only; omega)
  · have h' : ¬ (i : Int) < (next.length : Int) := by omega
    simp only [h', decide_false, Bool.false_eq_true, if_false, circulation_Chains_k3]
    split
    · exact ⟨_, rfl, by simp, by simp⟩
    · exact ⟨_, rfl, by have := h1.1; simp only; omega, h1.2⟩

theorem chains_some (next : List Int) : ∃ y, circulation_Chains_m next = some y ∧ ChB 40 y.1 := by
  unfold circulation_Chains_m
  by_cases hl : 40 < (next.length : Int)
  · simp only [hl, decide_true, if_true]
    exact ⟨_, rfl, by simp, by simp⟩
  · simp only [hl, decide_false, Bool.false_eq_true, if_false]
    rw [mk_bool (by omega) (by omega)]
    simp only [Option.bind_some, Int.toNat_natCast]
    refine iter_post (fun (s : List Bool × Nat) => s.1.length = next.length ∧ s.2 ≤ next.length ∧ NInv next s.1 s.2) (fun s => next.length - s.2) (fun (y : List (List Int) × Int) => ChB 40 y.1) ?_ FUEL _ ⟨by simp, by simp, fun k hk => absurd hk (by simp), fun j k hj => absurd hj (by simp)⟩ (FUEL_big (by simp only; omega))
    rintro c ⟨fo, i⟩ ⟨h1, h2, h3⟩ hc
    simp only at h1 h2 h3 hc
    simp only [circulation_Chains_b1]
    by_cases h : i < next.length
    · have h' : (i : Int) < (next.length : Int) := by omega
      simp only [h', decide_true, if_true]
      rw [idx_lt (by omega) h']
      simp only [Option.bind_some, Int.toNat_natCast]
      by_cases hx : next.getD i 0 = -1
      · simp only [hx, decide_true, if_true, circulation_Chains_k2]
        exact hc (fo, i + 1) ⟨h1, by simp only; omega, h3.skip hx⟩ (by simp only; omega)
      · simp only [hx, decide_false, Bool.false_eq_true, if_false]
        by_cases hr : next.getD i 0 < 0 ∨ (next.length : Int) ≤ next.getD i 0
        · have e : (decide (next.getD i 0 < 0) || decide ((next.length : Int) ≤ next.getD i 0)) = true := by simpa using hr
          simp only [e, Bool.not_true, whn, Bool.false_eq_true, if_false, Option.bind_some, Bool.true_or, if_true]
          exact ⟨_, rfl, by simp, by simp⟩
        · have e : (decide (next.getD i 0 < 0) || decide ((next.length : Int) ≤ next.getD i 0)) = false := by rw [Bool.or_eq_false_iff]; exact ⟨decide_eq_false (by omega), decide_eq_false (by omega)⟩
          have hid : idx fo (next.getD i 0) = some (fo.getD (next.getD i 0).toNat default) := idx_of_lt (by omega) (by omega)
          have hd : (default : Bool) = false := rfl
          rw [hd] at hid
          simp only [e, Bool.not_false, whn, if_true, hid, Option.bind_some, Bool.false_or]
          cases hf : fo.getD (next.getD i 0).toNat false
          · simp only [Bool.false_eq_true, if_false, circulation_Chains_k2]
            exact hc _ ⟨by simp only [List.length_set]; exact h1, by simp only; omega, h3.mark h1 (by omega) (by omega) hf⟩ (by simp only; omega)
          · simp only [if_true]
            exact ⟨_, rfl, by simp, by simp⟩
    · have h' : ¬ (i : Int) < (next.length : Int) := by omega
      have hi : i = next.length := by omega
      subst hi
      simp only [h', decide_false, Bool.false_eq_true, if_false, circulation_Chains_k1]
      exact chains_2 next fo (by omega) h1 h3

/-- The reference goes hand in hand with it. -/
theorem chains_eq (next : List Int) : ref24_Chains_m next = circulation_Chains_m next := by
  unfold circulation_Chains_m ref24_Chains_m
  by_cases hl : 40 < (next.length : Int)
  · simp [hl]
  · simp only [hl, decide_false, Bool.false_eq_true, if_false]
    rw [mk_bool (by omega) (by omega)]
    simp only [Option.bind_some, Int.toNat_natCast]
    refine iter_sim (fun (s t : List Bool × Nat) => s.2 = t.2 ∧ s.1.length = 40 ∧ t.1.length = next.length ∧ (∀ k, k < next.length → s.1.getD k false = t.1.getD k false) ∧ (∀ k, k < t.2 → k < next.length → next.getD k 0 = -1 ∨ (0 ≤ next.getD k 0 ∧ next.getD k 0 < next.length))) ?_ FUEL _ _ ⟨rfl, by simp, by simp, ?_, fun k hk => absurd hk (by simp)⟩
    · rintro c1 c2 hc ⟨le, i⟩ ⟨fo, j⟩ ⟨h1, h2, h3, h4, h5⟩
      simp only at h1 h2 h3 h4 h5
      subst h1
      simp only [ref24_Chains_b1, circulation_Chains_b1]
      by_cases h : i < next.length
      · have h' : (i : Int) < (next.length : Int) := by omega
        simp only [h', decide_true, if_true]
        rw [idx_lt (by omega) h']
        simp only [Option.bind_some, Int.toNat_natCast]
        by_cases hx : next.getD i 0 = -1
        · simp only [hx, decide_true, if_true, circulation_Chains_k2, ref24_Chains_k2]
          refine hc _ _ ⟨rfl, h2, h3, h4, fun k hk hk' => ?_⟩
          by_cases e : k = i
          · subst e; exact .inl hx
          · exact h5 k (by simp only at hk; omega) hk'
        · simp only [hx, decide_false, Bool.false_eq_true, if_false]
          by_cases hr : next.getD i 0 < 0 ∨ (next.length : Int) ≤ next.getD i 0
          · have e : (decide (next.getD i 0 < 0) || decide ((next.length : Int) ≤ next.getD i 0)) = true := by simpa using hr
            simp only [e, Bool.not_true, whn, Bool.false_eq_true, if_false, Option.bind_some, Bool.true_or, if_true]
          · have e : (decide (next.getD i 0 < 0) || decide ((next.length : Int) ≤ next.getD i 0)) = false := by rw [Bool.or_eq_false_iff]; exact ⟨decide_eq_false (by omega), decide_eq_false (by omega)⟩
            have hid : idx fo (next.getD i 0) = some (fo.getD (next.getD i 0).toNat default) := idx_of_lt (by omega) (by omega)
            have hid2 : idx le (next.getD i 0) = some (le.getD (next.getD i 0).toNat default) := idx_of_lt (by omega) (by omega)
            have hd : (default : Bool) = false := rfl
            rw [hd] at hid hid2
            rw [h4 _ (by omega)] at hid2
            simp only [e, Bool.not_false, whn, if_true, hid, hid2, Option.bind_some, Bool.false_or]
            split
            · rfl
            · simp only [circulation_Chains_k2, ref24_Chains_k2]
              refine hc _ _ ⟨rfl, by simp only [List.length_set]; exact h2, by simp only [List.length_set]; exact h3, fun k hk => ?_, fun k hk hk' => ?_⟩
              · simp only [getD_set, h4 k hk]
                have : (next.getD i 0).toNat < le.length ↔ (next.getD i 0).toNat < fo.length := by omega
                simp only [this]
              · by_cases e : k = i
                · subst e; exact .inr (by omega)
                · exact h5 k (by simp only at hk; omega) hk'
      · have h' : ¬ (i : Int) < (next.length : Int) := by omega
        simp only [h', decide_false, Bool.false_eq_true, if_false, circulation_Chains_k1, ref24_Chains_k1]
        have hok : ∀ k, k < next.length → next.getD k 0 = -1 ∨ (0 ≤ next.getD k 0 ∧ next.getD k 0 < next.length) := fun k hk => h5 k (by omega) hk
        refine iter_sim (fun s t => s = t) ?_ FUEL _ _ rfl
        rintro d1 d2 hd ⟨ch, ct, j⟩ _ rfl
        simp only [ref24_Chains_b2, circulation_Chains_b2]
        by_cases hj : j < next.length
        · have hj' : (j : Int) < (next.length : Int) := by omega
          simp only [hj', decide_true, if_true]
          rw [idx_of_lt (xs := le) (by omega) (by omega), idx_of_lt (xs := fo) (by omega) (by omega)]
          have hdf : (default : Bool) = false := rfl
          simp only [Option.bind_some, Int.toNat_natCast, hdf, h4 j hj]
          split
          · simp only [ref24_Chains_k4, circulation_Chains_k4]; exact hd _ _ rfl
          · refine iter_sim (fun s t => s = t ∧ -1 ≤ s.2) ?_ FUEL _ _ ⟨rfl, by simp only; omega⟩
            rintro e1 e2 he ⟨p, a⟩ _ ⟨rfl, ha⟩
            simp only at ha
            simp only [ref24_Chains_b3, circulation_Chains_b3]
            by_cases ha1 : a = -1
            · subst ha1
              simp only [ref24_Chains_k5, circulation_Chains_k5, ref24_Chains_k4, circulation_Chains_k4, hd _ _ rfl, chk]
              simp only [show ¬ (0 : Int) ≤ -1 by omega, decide_false, ne_eq, not_true_eq_false, Bool.false_eq_true, if_false]
              cases i64b (ct + (p.length : Int)) <;> cases decide ((ch.length + [p].length) * 24 ≤ 140737488355328) <;> rfl
            · have : (0 : Int) ≤ a := by omega
              simp only [this, ha1, decide_true, ne_eq, not_false_eq_true, if_true]
              congr 1
              cases hx : idx next a with
              | none => rfl
              | some x =>
                simp only [Option.bind_some]
                refine he _ _ ⟨rfl, ?_⟩
                have hi := idx_some hx
                have hlt : a.toNat < next.length := by
                  have := hi.2.1
                  omega
                have hx2 : next.getD a.toNat 0 = x := by
                  have h := idx_lt (xs := next) this (by omega)
                  rw [hx] at h
                  exact (Option.some.inj h).symm
                rcases hok a.toNat hlt with e | e
                · simp only; omega
                · simp only; omega
        · have hj' : ¬ (j : Int) < (next.length : Int) := by omega
          simp only [hj', decide_false, Bool.false_eq_true, if_false]
          rfl
    · intro k hk
      simp only [rep_getD]

theorem same_m (a : List Int) (h : a.length ≤ 140737488355328) : keep_Same_int_m a a = some true := by
  unfold keep_Same_int_m
  simp only [ne_eq, not_true_eq_false, decide_false, Bool.false_eq_true, if_false]
  rw [iter_all a (fun _ => true) (some true) (some false) ?_ ?_ (FUEL_big h)]
  · simp
  · intro c i x hi hg hx
    have h1 : ((i : Int) < (a.length : Int)) := by omega
    simp [keep_Same_int_b1, h1, hx]
  · intro c
    simp [keep_Same_int_b1, keep_Same_int_k1]

theorem sameLists_m (a : List (List Int)) (h : a.length ≤ 140737488355328) (h2 : ∀ c ∈ a, c.length ≤ 140737488355328) : keep_SameLists_int_m a a = some true := by
  unfold keep_SameLists_int_m
  simp only [ne_eq, not_true_eq_false, decide_false, Bool.false_eq_true, if_false]
  rw [iter_all a (fun _ => true) (some true) (some false) ?_ ?_ (FUEL_big h)]
  · simp
  · intro c i x hi hg hx
    have h1 : ((i : Int) < (a.length : Int)) := by omega
    simp [keep_SameLists_int_b1, h1, hx, same_m x (h2 x (List.mem_of_getElem? hg))]
  · intro c
    simp [keep_SameLists_int_b1, keep_SameLists_int_k1]
end Go.Proofs.Ytedocibniankjaa

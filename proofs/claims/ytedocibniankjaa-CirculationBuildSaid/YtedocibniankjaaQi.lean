/- Plain laws of chapter 28: the cover of a circulation. -/
import Derived.Test.YtedocibniankjaaQg
namespace Go.Proofs.Ytedocibniankjaa
open Go.Dc

theorem index_wp (l : List Int) (v : Int) (hl : l.length ≤ 140737488355328) : WP (slices_Index_int_int_m l v) (fun k => (k = -1 ∧ ∀ i : Int, 0 ≤ i → i < l.length → gi l i ≠ v) ∨ (0 ≤ k ∧ k < l.length ∧ gi l k = v)) := by
  unfold slices_Index_int_int_m
  refine wp_iter (fun (t : Nat) => t ≤ l.length ∧ ∀ i : Int, 0 ≤ i → i < t → gi l i ≠ v) (fun t => l.length - t) _ ?_ FUEL _ ⟨Nat.zero_le _, fun i _ i1 => by omega⟩ (fuel_of (by omega))
  rintro c t ⟨ht, hA⟩ hc
  simp only [slices_Index_int_int_b1]
  refine wp_ite (fun h => ?_) (fun h => ?_)
  · simp only [decide_eq_true_eq] at h
    refine wp_idxi (by omega) (wp_ite (fun hb => ?_) (fun hb => ?_))
    · simp only [decide_eq_true_eq] at hb
      exact wp_some (Or.inr ⟨by omega, by omega, hb.symm⟩)
    · simp only [decide_eq_false_iff_not] at hb
      refine hc _ ⟨by omega, fun i i0 i1 => ?_⟩ (by omega)
      by_cases e : i = t
      · subst e; exact Ne.symm hb
      · exact hA i i0 (by omega)
  · simp only [decide_eq_false_iff_not] at h
    obtain rfl : t = l.length := by omega
    exact wp_some (Or.inl ⟨rfl, hA⟩)

theorem count_true_mark {l : List Bool} {v : Int} (v1 : v < l.length) (v0 : 0 ≤ v) (h : gb l v = false) : (l.set v.toNat true).count true = l.count true + 1 := by
  have hlt : v.toNat < l.length := by omega
  have e : l[v.toNat] = false := by
    unfold gb at h; simpa [hlt] using h
  rw [List.count_set hlt, e]
  simp
theorem count_false_mark {l : List Bool} {v : Int} (v1 : v < l.length) (v0 : 0 ≤ v) (h : gb l v = false) : (l.set v.toNat true).count false + 1 = l.count false := by
  have hlt : v.toNat < l.length := by omega
  have e : l[v.toNat] = false := by
    unfold gb at h; simpa [hlt] using h
  have hm : false ∈ l := by rw [← e]; exact List.getElem_mem hlt
  have hp := List.count_pos_iff.2 hm
  rw [List.count_set hlt, e]
  simp
  omega
theorem count_lt {l : List Bool} {v : Int} (v1 : v < l.length) (v0 : 0 ≤ v) (h : gb l v = false) : l.count true + 1 ≤ l.length := by
  have hlt : v.toNat < l.length := by omega
  have e : l[v.toNat] = false := by
    unfold gb at h; simpa [hlt] using h
  have hm : false ∈ l := by rw [← e]; exact List.getElem_mem hlt
  have hne : l.count true ≠ l.length := fun hc => by
    have := List.count_eq_length.1 hc false hm
    cases this
  have := List.count_le_length (l := l) (a := true)
  omega

/-- Prices that prove a circulation to be of the fewest vehicles. -/
structure Pot (ts : List Task) (r : Rules) (next : List Int) (P B : Int → Int) (h : Int) : Prop where
  k1 : ∀ a : Int, 0 ≤ a → a < ts.length → gi next a = -1 → P a ≤ h
  k2 : ∀ a b : Int, 0 ≤ a → a < ts.length → 0 ≤ b → b < ts.length → fok ts r a b = true → gi next a ≠ b → B b ≤ P a + sec ts r a b - 288001
  k3 : ∀ a b : Int, 0 ≤ a → a < ts.length → 0 ≤ b → b < ts.length → gi next a = b → P a ≤ B b - (sec ts r a b - 288001)
  k4 : ∀ b : Int, 0 ≤ b → b < ts.length → (∀ a : Int, 0 ≤ a → a < ts.length → gi next a ≠ b) → h ≤ B b

/-- While the cover is sought. -/
structure BF (ts : List Task) (next : List Int) (P : Int → Int) (h : Int) (fi se : List Bool) (q : List Int) : Prop where
  lf : fi.length = ts.length
  ls : se.length = ts.length
  q1 : ∀ a ∈ q, 0 ≤ a ∧ a < ts.length ∧ gb fi a = true
  f1 : ∀ a : Int, 0 ≤ a → a < ts.length → gi next a = -1 → gb fi a = true
  f2 : ∀ a : Int, 0 ≤ a → a < ts.length → gi next a ≠ -1 → (gb fi a = true ↔ gb se (gi next a) = true)
  s1 : ∀ b : Int, 0 ≤ b → b < ts.length → gb se b = true → ∃ a : Int, 0 ≤ a ∧ a < ts.length ∧ gi next a = b
  pf : ∀ a : Int, 0 ≤ a → a < ts.length → gb fi a = true → P a ≤ h + 7200 * (se.count true : Int)
  c : q.length + fi.count false ≤ ts.length

theorem BF.mark {ts : List Task} {r : Rules} {next : List Int} {P B : Int → Int} {h : Int} (hn : ts.length ≤ 40) (C : Circ ts r next) (T : TV ts r) (K : Pot ts r next P B h) {fi se : List Bool} {q : List Int} (F : BF ts next P h fi se q)
    {a b : Int} (a0 : 0 ≤ a) (a1 : a < ts.length) (ha : gb fi a = true) (b0 : 0 ≤ b) (b1 : b < ts.length) (hf : fok ts r a b = true) (hb : gb se b = false) :
    ∃ c : Int, 0 ≤ c ∧ c < ts.length ∧ gi next c = b ∧ gb fi c = false ∧ BF ts next P h (fi.set c.toNat true) (se.set b.toNat true) (q ++ [c]) := by
  have lf := F.lf
  have ls := F.ls
  have hne : gi next a ≠ b := fun e => by
    have := (F.f2 a a0 a1 (by omega)).1 ha
    rw [e, hb] at this; cases this
  have k2 := K.k2 a b a0 a1 b0 b1 hf hne
  have pa := F.pf a a0 a1 ha
  have sb := T.sec a b
  have cl := count_lt (l := se) (v := b) (by omega) b0 hb
  have ct := count_true_mark (l := se) (v := b) (by omega) b0 hb
  have sb' : sec ts r a b ≤ 7200 := sb.2
  have hex : ∃ c : Int, 0 ≤ c ∧ c < ts.length ∧ gi next c = b := by
    refine Classical.byContradiction fun hno => ?_
    have := K.k4 b b0 b1 (fun c c0 c1 e => hno ⟨c, c0, c1, e⟩)
    omega
  obtain ⟨c, c0, c1, e⟩ := hex
  have hcf : gb fi c = false := by
    cases hc : gb fi c with
    | false => rfl
    | true =>
      have := (F.f2 c c0 c1 (by omega)).1 hc
      rw [e, hb] at this; cases this
  have g1 : ∀ w : Int, 0 ≤ w → gb (fi.set c.toNat true) w = if w = c then true else gb fi w := fun w w0 => gb_set _ _ _ _ c0 w0 (by omega)
  have g2 : ∀ w : Int, 0 ≤ w → gb (se.set b.toNat true) w = if w = b then true else gb se w := fun w w0 => gb_set _ _ _ _ b0 w0 (by omega)
  have cf := count_false_mark (l := fi) (v := c) (by omega) c0 hcf
  refine ⟨c, c0, c1, e, hcf, by rw [List.length_set]; exact lf, by rw [List.length_set]; exact ls, ?_, ?_, ?_, ?_, ?_, ?_⟩
  · intro x hx
    rw [List.mem_append, List.mem_singleton] at hx
    rcases hx with hx | rfl
    · obtain ⟨x0, x1, x2⟩ := F.q1 x hx
      refine ⟨x0, x1, ?_⟩
      rw [g1 x x0]; split
      · rfl
      · exact x2
    · exact ⟨c0, c1, by rw [g1 x c0, if_pos rfl]⟩
  · intro x x0 x1 hx
    rw [g1 x x0]; split
    · rfl
    · exact F.f1 x x0 x1 hx
  · intro x x0 x1 hx
    rw [g1 x x0]
    have hxr : 0 ≤ gi next x ∧ gi next x < ts.length := by
      rcases C.ok x x0 x1 with h' | ⟨h0, h1, _⟩
      · exact absurd h' hx
      · exact ⟨h0, h1⟩
    rw [g2 _ hxr.1]
    by_cases ex : x = c
    · rw [if_pos ex, ex, if_pos e]
    · rw [if_neg ex, if_neg (fun e' => ex (C.inj x c x0 x1 c0 c1 (e'.trans e.symm) hx))]
      exact F.f2 x x0 x1 hx
  · intro w w0 w1 hw
    rw [g2 w w0] at hw
    by_cases ew : w = b
    · exact ⟨c, c0, c1, by rw [ew]; exact e⟩
    · rw [if_neg ew] at hw; exact F.s1 w w0 w1 hw
  · intro x x0 x1 hx
    rw [g1 x x0] at hx
    rw [ct]
    by_cases ex : x = c
    · have k3 := K.k3 c b c0 c1 b0 b1 e
      have sc := (T.sec c b).1
      have sc' : 0 ≤ sec ts r c b := sc
      rw [ex]; omega
    · rw [if_neg ex] at hx
      have := F.pf x x0 x1 hx
      omega
  · have := F.c
    simp only [List.length_append, List.length_singleton]
    omega

theorem asc_snoc {l : List Int} {n : Int} {t : Int} (h : AscL l n) (hm : ∀ x ∈ l, x < t) (t0 : 0 ≤ t) (t1 : t < n) : AscL (l ++ [t]) n := by
  intro i i0 i1
  have len : ((l ++ [t]).length : Int) = l.length + 1 := by simp
  have g1 : ∀ k : Int, 0 ≤ k → k < l.length → gi (l ++ [t]) k = gi l k := fun k k0 k1 => by
    have : k.toNat < l.length := by omega
    unfold gi; simp [List.getElem?_append_left this]
  have g2 : gi (l ++ [t]) l.length = t := by unfold gi; simp
  have gm : ∀ k : Int, 0 ≤ k → k < l.length → gi l k ∈ l := fun k k0 k1 => by
    have : k.toNat < l.length := by omega
    unfold gi; simp [this]
  by_cases e : i = l.length
  · subst e
    rw [g2]
    refine ⟨t0, t1, fun hp => ?_⟩
    rw [g1 _ (by omega) (by omega)]
    exact hm _ (gm _ (by omega) (by omega))
  · obtain ⟨a, b, c⟩ := h i i0 (by omega)
    rw [g1 i i0 (by omega)]
    refine ⟨a, b, fun hp => ?_⟩
    rw [g1 (i - 1) (by omega) (by omega)]
    exact c hp

/-- The numbers of a kind, in order. -/
structure Lst (l : List Int) (n : Int) (p : Int → Bool) (t : Int) : Prop where
  a : AscL l n
  m : ∀ w : Int, w ∈ l ↔ (0 ≤ w ∧ w < t ∧ p w = true)
  s : (l.length : Int) = sumTo (fun w => if p w then 1 else 0) t.toNat
theorem Lst.nil (n : Int) (p : Int → Bool) : Lst [] n p 0 := ⟨fun i i0 i1 => by simp at i1; omega, fun w => ⟨fun h => (by cases h), fun ⟨_, _, _⟩ => by omega⟩, rfl⟩
theorem Lst.yes {l : List Int} {n : Int} {p : Int → Bool} {t : Int} (L : Lst l n p t) (t0 : 0 ≤ t) (t1 : t < n) (h : p t = true) : Lst (l ++ [t]) n p (t + 1) := by
  refine ⟨asc_snoc L.a (fun x hx => ((L.m x).1 hx).2.1) t0 t1, fun w => ?_, ?_⟩
  · rw [List.mem_append, List.mem_singleton, L.m w]
    constructor
    · rintro (⟨a, b, c⟩ | rfl)
      · exact ⟨a, by omega, c⟩
      · exact ⟨t0, by omega, h⟩
    · rintro ⟨a, b, c⟩
      by_cases e : w = t
      · exact Or.inr e
      · exact Or.inl ⟨a, by omega, c⟩
  · rw [show (t + 1).toNat = t.toNat + 1 by omega, sumTo, ← L.s, show ((t.toNat : Nat) : Int) = t by omega, h]
    simp
theorem Lst.no {l : List Int} {n : Int} {p : Int → Bool} {t : Int} (L : Lst l n p t) (t0 : 0 ≤ t) (h : p t = false) : Lst l n p (t + 1) := by
  refine ⟨L.a, fun w => ?_, ?_⟩
  · rw [L.m w]
    constructor
    · rintro ⟨a, b, c⟩; exact ⟨a, by omega, c⟩
    · rintro ⟨a, b, c⟩
      refine ⟨a, ?_, c⟩
      have : w ≠ t := fun e => by subst e; rw [h] at c; cases c
      omega
  · rw [show (t + 1).toNat = t.toNat + 1 by omega, sumTo, ← L.s, show ((t.toNat : Nat) : Int) = t by omega, h]
    simp

theorem cover_wp {ts : List Task} {r : Rules} (T : TV ts r) {next : List Int} (C : Circ ts r next) {P B : Int → Int} {h : Int} (K : Pot ts r next P B h) : WP (circulation_cover_m ts r next) (fun c => Cov ts r next c) := by
  have hn := T.len
  have hlen := C.len
  unfold circulation_cover_m
  rw [mk_int (by omega) (by omega)]
  simp only [Option.bind_some]
  refine wp_iter (fun (t : List Int × Nat) => t.2 ≤ ts.length ∧ t.1.length = ts.length ∧ ∀ b : Int, 0 ≤ b → b < t.2 → (gi t.1 b = -1 ∧ ∀ a : Int, 0 ≤ a → a < ts.length → gi next a ≠ b) ∨ (0 ≤ gi t.1 b ∧ gi t.1 b < ts.length ∧ gi next (gi t.1 b) = b))
    (fun t => 100 - t.2) _ ?_ FUEL _ ⟨Nat.zero_le _, by simp, fun b _ b1 => by simp only at b1; omega⟩ (fuel_of (by simp only; omega))
  rintro k ⟨be, t⟩ ⟨ht, hbl, hbe⟩ hc
  simp only at ht hbl hbe hc
  simp only [circulation_cover_b1]
  refine wp_ite (fun ht1 => ?_) (fun ht1 => ?_)
  · simp only [decide_eq_true_eq, List.length_replicate] at ht1
    refine wp_bind _ (index_wp next t (by omega)) ?_
    intro y hy
    refine wp_idxi (by omega) (hc _ ⟨by simp only; omega, by simp only [List.length_set]; exact hbl, fun b b0 b1 => ?_⟩ (by simp only; omega))
    simp only at b1 ⊢
    rw [gi_set _ _ _ _ (by omega) b0 (by omega)]
    by_cases e : b = t
    · rw [if_pos e, e]
      rcases hy with ⟨h1, h2⟩ | ⟨h1, h2, h3⟩
      · exact Or.inl ⟨h1, fun a a0 a1 => h2 a a0 (by omega)⟩
      · exact Or.inr ⟨h1, by omega, h3⟩
    · rw [if_neg e]; exact hbe b b0 (by omega)
  · simp only [decide_eq_false_iff_not, List.length_replicate] at ht1
    obtain rfl : t = ts.length := by omega
    simp only [circulation_cover_k1]
    rw [mk_bool (by omega) (by omega)]
    simp only [Option.bind_some]
    have gz : ∀ w : Int, gb (List.replicate (ts.length : Int).toNat false) w = false := fun w => by
      unfold gb; simp [List.getElem?_replicate]; split <;> simp
    have cz : (List.replicate (ts.length : Int).toNat false).count true = 0 := by simp [List.count_replicate]
    refine wp_iter (fun (t : List Bool × List Int × Nat) => t.2.2 ≤ ts.length ∧ t.1.length = ts.length ∧ (∀ a : Int, 0 ≤ a → a < ts.length → (gb t.1 a = true ↔ a < t.2.2 ∧ gi next a = -1)) ∧ (∀ a : Int, a ∈ t.2.1 ↔ 0 ≤ a ∧ a < t.2.2 ∧ gi next a = -1) ∧ t.2.1.length + t.1.count false ≤ ts.length)
      (fun t => 100 - t.2.2) _ ?_ FUEL _ ⟨Nat.zero_le _, by simp, fun a a0 a1 => ?_, fun a => ?_, ?_⟩ (fuel_of (by simp only; omega))
    · rintro k2 ⟨fi, q, t⟩ ⟨ht, hfl, hf, hq, hcn⟩ hc2
      simp only at ht hfl hf hq hcn hc2
      simp only [circulation_cover_b2]
      refine wp_ite (fun ht2 => ?_) (fun ht2 => ?_)
      · simp only [decide_eq_true_eq] at ht2
        refine wp_idxi (by omega) (wp_ite (fun hx => ?_) (fun hx => ?_))
        · simp only [decide_eq_true_eq] at hx
          have hft : gb fi t = false := by
            cases e : gb fi t with
            | false => rfl
            | true => have := (hf t (by omega) (by omega)).1 e; omega
          have cf := count_false_mark (l := fi) (v := t) (by omega) (by omega) hft
          refine wp_idxb (by omega) (wp_chk (by simp; omega) (hc2 _ ⟨by simp only; omega, by simp only [List.length_set]; exact hfl, fun a a0 a1 => ?_, fun a => ?_, ?_⟩ (by simp only; omega)))
          · simp only
            rw [gb_set _ _ _ _ (by omega) a0 (by omega)]
            by_cases e : a = t
            · rw [if_pos e, e]; exact ⟨fun _ => ⟨by omega, hx⟩, fun _ => rfl⟩
            · rw [if_neg e, hf a a0 a1]
              exact ⟨fun ⟨x, y⟩ => ⟨by omega, y⟩, fun ⟨x, y⟩ => ⟨by omega, y⟩⟩
          · simp only
            rw [List.mem_append, List.mem_singleton, hq a]
            constructor
            · rintro (⟨x, y, z⟩ | rfl)
              · exact ⟨x, by omega, z⟩
              · exact ⟨by omega, by omega, hx⟩
            · rintro ⟨x, y, z⟩
              by_cases e : a = t
              · exact Or.inr e
              · exact Or.inl ⟨x, by omega, z⟩
          · simp only [List.length_append, List.length_singleton]; omega
        · simp only [decide_eq_false_iff_not] at hx
          refine hc2 _ ⟨by simp only; omega, hfl, fun a a0 a1 => ?_, fun a => ?_, hcn⟩ (by simp only; omega)
          · simp only
            rw [hf a a0 a1]
            refine ⟨fun ⟨x, y⟩ => ⟨by omega, y⟩, fun ⟨x, y⟩ => ⟨?_, y⟩⟩
            have : a ≠ t := fun e => by subst e; exact hx y
            omega
          · simp only
            rw [hq a]
            refine ⟨fun ⟨x, y, z⟩ => ⟨x, by omega, z⟩, fun ⟨x, y, z⟩ => ⟨x, ?_, z⟩⟩
            have : a ≠ t := fun e => by subst e; exact hx z
            omega
      · simp only [decide_eq_false_iff_not] at ht2
        obtain rfl : t = ts.length := by omega
        simp only [circulation_cover_k2]
        have F0 : BF ts next P h fi (List.replicate (ts.length : Int).toNat false) q := by
          refine ⟨hfl, by simp, fun a ha => ?_, fun a a0 a1 ha => (hf a a0 a1).2 ⟨a1, ha⟩, fun a a0 a1 ha => ?_, fun b b0 b1 hb => ?_, fun a a0 a1 ha => ?_, hcn⟩
          · obtain ⟨x, y, z⟩ := (hq a).1 ha
            exact ⟨x, y, (hf a x y).2 ⟨y, z⟩⟩
          · rw [gz]
            exact ⟨fun h' => absurd ((hf a a0 a1).1 h').2 ha, fun h' => (by cases h')⟩
          · rw [gz] at hb; cases hb
          · have := K.k1 a a0 a1 ((hf a a0 a1).1 ha).2
            rw [cz]; omega
        refine wp_iter (fun (t : List Bool × List Bool × List Int) => BF ts next P h t.1 t.2.1 t.2.2 ∧ ∀ a b : Int, 0 ≤ a → a < ts.length → 0 ≤ b → b < ts.length → gb t.1 a = true → a ∉ t.2.2 → fok ts r a b = true → gb t.2.1 b = true)
          (fun t => 2 * t.1.count false + t.2.2.length) _ ?_ FUEL _ ⟨F0, fun a b a0 a1 _ _ ha hnq _ => absurd ((hq a).2 ⟨a0, a1, ((hf a a0 a1).1 ha).2⟩) hnq⟩ (fuel_of (by simp only; omega))
        rintro k3 ⟨fi, se, q⟩ ⟨F, hcl⟩ hc3
        simp only at F hcl hc3
        have fl := F.lf
        have sl := F.ls
        have fc := F.c
        simp only [circulation_cover_b3]
        refine wp_ite (fun hq0 => ?_) (fun hq0 => ?_)
        · simp only [decide_eq_true_eq] at hq0
          obtain ⟨a, q', rfl⟩ : ∃ v q', q = v :: q' := by
            cases q with
            | nil => simp at hq0
            | cons v q' => exact ⟨v, q', rfl⟩
          obtain ⟨a0, a1, ha⟩ := F.q1 a (by simp)
          simp only [List.length_cons] at fc hc3
          refine wp_idx (x := a) (by omega) (by simp) ?_
          have hsub : sub (a :: q') 1 ((a :: q').length : Int) = some q' := by
            unfold sub
            rw [if_pos (by simp only [List.length_cons]; omega)]
            simp
          refine wp_is hsub ?_
          have F' : BF ts next P h fi se q' := ⟨F.lf, F.ls, fun x hx => F.q1 x (by simp [hx]), F.f1, F.f2, F.s1, F.pf, by omega⟩
          refine wp_iter (fun (t : List Bool × List Bool × List Int × Nat) => t.2.2.2 ≤ ts.length ∧ BF ts next P h t.1 t.2.1 t.2.2.1 ∧ gb t.1 a = true ∧ 2 * t.1.count false + t.2.2.1.length ≤ 2 * fi.count false + q'.length ∧
              (∀ c b : Int, 0 ≤ c → c < ts.length → 0 ≤ b → b < ts.length → gb t.1 c = true → c ∉ t.2.2.1 → c ≠ a → fok ts r c b = true → gb t.2.1 b = true) ∧ (∀ b : Int, 0 ≤ b → b < t.2.2.2 → fok ts r a b = true → gb t.2.1 b = true))
            (fun t => 100 - t.2.2.2) _ ?_ FUEL _ ⟨Nat.zero_le _, F', ha, Nat.le_refl _, fun c b c0 c1 b0 b1 hc hnq hne hf => hcl c b c0 c1 b0 b1 hc (by simp [hne, hnq]) hf, fun b _ b1 => by simp only at b1; omega⟩ (fuel_of (by simp only; omega))
          rintro k4 ⟨fi4, se4, q4, t⟩ ⟨ht4, F4, ha4, hm4, hcl4, hd4⟩ hc4
          simp only at ht4 F4 ha4 hm4 hcl4 hd4 hc4
          have fl4 := F4.lf
          have sl4 := F4.ls
          have fc4 := F4.c
          simp only [circulation_cover_b4]
          refine wp_ite (fun h4 => ?_) (fun h4 => ?_)
          · simp only [decide_eq_true_eq] at h4
            refine wp_idxt (by omega) (wp_idxt (by omega) (wp_is (T.fo _ a0 a1).1 ?_))
            have skip : (fok ts r a t = true → gb se4 t = true) → WP (circulation_cover_k5 k4 t (fi4, se4, q4)) (fun c => Cov ts r next c) := fun hs =>
              hc4 _ ⟨by simp only; omega, F4, ha4, hm4, hcl4, fun b b0 b1 hf => by
                by_cases e : b = t
                · subst e; exact hs hf
                · exact hd4 b b0 (by simp only at b1; omega) hf⟩ (by simp only; omega)
            refine wp_whn (fun hg => ?_) (fun hg => ?_)
            · simp only [Bool.not_not] at hg
              refine wp_idxb (by omega) (wp_ite (fun hs => ?_) (fun hs => ?_))
              · rw [hg, Bool.not_true, Bool.false_or] at hs
                exact skip (fun _ => hs)
              · rw [hg, Bool.not_true, Bool.false_or] at hs
                obtain ⟨c, c0, c1, ec, hcf, F5⟩ := F4.mark (r := r) hn C T K a0 a1 ha4 (b := t) (by omega) h4 hg hs
                have cf := count_false_mark (l := fi4) (v := c) (by omega) c0 hcf
                refine wp_idxb (by omega) (wp_idxi (by omega) ?_)
                have hbt : gi be t = c := by
                  rcases hbe t (by omega) h4 with ⟨_, h2⟩ | ⟨h1, h2, h3⟩
                  · exact absurd ec (h2 c c0 c1)
                  · exact C.inj _ c h1 h2 c0 c1 (h3.trans ec.symm) (by omega)
                rw [hbt]
                refine wp_whn (fun _ => ?_) (fun h' => by simp at h'; omega)
                refine wp_idxb (by omega) (wp_ite (fun _ => ?_) (fun h' => ?_))
                · have g1 : ∀ w : Int, 0 ≤ w → gb (fi4.set c.toNat true) w = if w = c then true else gb fi4 w := fun w w0 => gb_set _ _ _ _ c0 w0 (by omega)
                  have g2 : ∀ w : Int, 0 ≤ w → gb (se4.set ((t : Int)).toNat true) w = if w = t then true else gb se4 w := fun w w0 => gb_set _ _ _ _ (by omega) w0 (by omega)
                  refine wp_idxb (by omega) (wp_chk (by simp; omega) (hc4 _ ⟨by simp only; omega, F5, ?_, ?_, ?_, ?_⟩ (by simp only; omega)))
                  · simp only
                    rw [g1 a a0]; split
                    · rfl
                    · exact ha4
                  · simp only [List.length_append, List.length_singleton]; omega
                  · intro x b x0 x1 b0 b1 hx hnq hne hf
                    simp only at hx hnq ⊢
                    rw [g2 b b0]
                    split
                    · rfl
                    · rw [g1 x x0] at hx
                      rw [List.mem_append, List.mem_singleton, not_or] at hnq
                      rw [if_neg hnq.2] at hx
                      exact hcl4 x b x0 x1 b0 b1 hx hnq.1 hne hf
                  · intro b b0 b1 hf
                    simp only at b1 ⊢
                    rw [g2 b b0]
                    split
                    · rfl
                    · exact hd4 b b0 (by omega) hf
                · rw [hcf] at h'; simp at h'; omega
            · simp only [Bool.not_not] at hg
              refine wp_ite (fun _ => ?_) (fun h' => by rw [hg] at h'; simp at h')
              refine skip (fun h' => ?_)
              unfold fok at h'
              rw [hg] at h'; cases h'
          · simp only [decide_eq_false_iff_not] at h4
            refine hc3 _ ⟨F4, fun c b c0 c1 b0 b1 hc hnq hf => ?_⟩ (by simp only; omega)
            by_cases e : c = a
            · subst e; exact hd4 b b0 (by omega) hf
            · exact hcl4 c b c0 c1 b0 b1 hc hnq e hf
        · simp only [decide_eq_false_iff_not] at hq0
          have hq1 : q = [] := by
            cases q with
            | nil => rfl
            | cons v q' => simp only [List.length_cons] at hq0; omega
          subst hq1
          simp only [circulation_cover_k4]
          refine wp_iter (fun (t : List Int × List Int × Nat) => t.2.2 ≤ ts.length ∧ Lst t.1 ts.length (fun a => !gb fi a) t.2.2 ∧ Lst t.2.1 ts.length (gb se) t.2.2 ∧ t.1.length ≤ t.2.2 ∧ t.2.1.length ≤ t.2.2) (fun t => 100 - t.2.2) _ ?_ FUEL _ ⟨Nat.zero_le _, Lst.nil _ _, Lst.nil _ _, Nat.le_refl _, Nat.le_refl _⟩ (fuel_of (by simp only; omega))
          rintro k5 ⟨L, R, t⟩ ⟨ht5, HL, HR, hL, hR⟩ hc5
          simp only at ht5 HL HR hL hR hc5
          simp only [circulation_cover_b5]
          refine wp_ite (fun h5 => ?_) (fun h5 => ?_)
          · simp only [decide_eq_true_eq] at h5
            have ec : ((t + 1 : Nat) : Int) = (t : Int) + 1 := by omega
            have second : ∀ L', Lst L' ts.length (fun a => !gb fi a) ((t : Int) + 1) → L'.length ≤ t + 1 → WP (circulation_cover_k8 se t R k5 L') (fun c => Cov ts r next c) := by
              intro L' HL' hL'
              simp only [circulation_cover_k8]
              refine wp_idxb (by omega) (wp_ite (fun hs => ?_) (fun hs => ?_))
              · refine wp_chk (by simp; omega) (hc5 _ ⟨by simp only; omega, by simp only; rw [ec]; exact HL', by simp only; rw [ec]; exact HR.yes (by omega) (by omega) hs, hL', by simp only [List.length_append, List.length_singleton]; omega⟩ (by simp only; omega))
              · exact hc5 _ ⟨by simp only; omega, by simp only; rw [ec]; exact HL', by simp only; rw [ec]; exact HR.no (by omega) hs, hL', by simp only; omega⟩ (by simp only; omega)
            refine wp_idxb (by omega) (wp_ite (fun hf => ?_) (fun hf => ?_))
            · refine wp_chk (by simp; omega) (second _ (HL.yes (by omega) (by omega) hf) (by simp only [List.length_append, List.length_singleton]; omega))
            · exact second _ (HL.no (by omega) hf) (by omega)
          · simp only [decide_eq_false_iff_not] at h5
            obtain rfl : t = ts.length := by omega
            refine wp_some ⟨C, HL.a, HR.a, ?_, fun a b a0 a1 b0 b1 hf => ?_⟩
            · -- the sizes
              simp only
              have e1 : (ts.length : Int).toNat = ts.length := by omega
              rw [HL.s, HR.s, e1]
              have swap : sumTo (fun b => if gb se b then 1 else 0) ts.length = sumTo (fun a => if gi next a = -1 then 0 else if gb fi a then 1 else 0) ts.length := by
                rw [sumTo_congr (g := fun b => sumTo (fun a => if gb se b && decide (gi next a = b) then 1 else 0) ts.length) (fun b b0 b1 => ?_)]
                · rw [sumTo_swap (fun b a => if gb se b && decide (gi next a = b) then 1 else 0)]
                  refine sumTo_congr (fun a a0 a1 => ?_)
                  rcases C.ok a a0 a1 with h' | ⟨h0, h1, _⟩
                  · rw [if_pos h']
                    refine sumTo_zero (fun b b0 b1 => ?_)
                    rw [if_neg]
                    simp only [Bool.and_eq_true, decide_eq_true_eq]
                    rintro ⟨_, h2⟩
                    omega
                  · rw [if_neg (by omega), sumTo_congr (g := fun b => if b = gi next a then (if gb se b then 1 else 0) else 0) (fun b b0 b1 => ?_), sumTo_ind _ (fun b => if gb se b then 1 else 0) _ h0 h1]
                    · have := F.f2 a a0 a1 (by omega)
                      cases e : gb fi a with
                      | true => rw [this.1 e]
                      | false =>
                        cases e2 : gb se (gi next a) with
                        | false => rfl
                        | true => rw [this.2 e2] at e; cases e
                    · by_cases e : b = gi next a
                      · subst e; simp
                      · rw [if_neg e, if_neg]
                        simp only [Bool.and_eq_true, decide_eq_true_eq]
                        rintro ⟨_, h2⟩
                        exact e h2.symm
                · cases e : gb se b with
                  | false => simp only [Bool.false_and, Bool.false_eq_true, if_false]; rw [sumTo_const]; simp
                  | true =>
                    obtain ⟨a, a0, a1, ea⟩ := F.s1 b b0 b1 e
                    rw [sumTo_congr (g := fun i => if i = a then 1 else 0) (fun i i0 i1 => ?_), sumTo_ind a (fun _ => 1) _ a0 a1]
                    · simp
                    · simp only [Bool.true_and, decide_eq_true_eq]
                      by_cases c1 : i = a
                      · rw [if_pos c1, c1, if_pos ea]
                      · rw [if_neg c1, if_neg (fun e' => c1 (C.inj i a i0 i1 a0 a1 (e'.trans ea.symm) (by omega)))]
              rw [swap, ← sumTo_add]
              unfold jn
              refine sumTo_congr (fun a a0 a1 => ?_)
              cases e : gb fi a with
              | true => simp
              | false =>
                have : gi next a ≠ -1 := fun h' => by rw [F.f1 a a0 a1 h'] at e; cases e
                simp [this]
            · simp only
              rw [HL.m, HR.m]
              cases e : gb fi a with
              | false => left; exact ⟨a0, a1, rfl⟩
              | true => right; exact ⟨b0, b1, hcl a b a0 a1 b0 b1 e (by simp) hf⟩
    · simp only
      rw [gz]
      exact ⟨fun h => (by cases h), fun ⟨x, _⟩ => by omega⟩
    · simp only
      exact ⟨fun h => (by cases h), fun ⟨x, y, _⟩ => by omega⟩
    · simp only [List.length_nil, List.count_replicate]; simp
end Go.Proofs.Ytedocibniankjaa

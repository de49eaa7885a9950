/- Plain laws of chapter 28: the chains of a circulation. -/
import Derived.Test.YtedocibniankjaaQg
namespace Go.Proofs.Ytedocibniankjaa
open Go.Dc

/-- Tasks that follow start later. -/
theorem TV.later {ts : List Task} {r : Rules} (T : TV ts r) {a b : Int} (a0 : 0 ≤ a) (a1 : a < ts.length) (h : fok ts r a b = true) : (tk ts a).Start < (tk ts b).Start := by
  have hg := T.h
  simp only [tasksB, Bool.and_eq_true] at hg
  obtain ⟨_, h3, h4, _, h6⟩ := hg
  have hm : tk ts a ∈ ts := by
    have : a.toNat < ts.length := by omega
    unfold tk; simp [this]
  have ha := List.all_eq_true.1 h3 _ hm
  have le := fw_le r _ _ h
  have bd := fw_bd r (tk ts a) (tk ts b) h4
  simp [taskB] at ha
  simp [limB] at h6
  omega

/-- A chain: what is gone through from its first task on, up to a. -/
inductive Ch (next : List Int) (first : Int) : List Int → Int → Prop where
  | nil : Ch next first [] first
  | snoc {c : List Int} {x : Int} : Ch next first c x → x ≠ -1 → Ch next first (c ++ [x]) (gi next x)

/-- The chains so far: F is all that they contain. -/
structure Fl (n : Nat) (next : List Int) (F : List Int) (t : Int) : Prop where
  nd : F.Nodup
  rg : ∀ x ∈ F, 0 ≤ x ∧ x < n
  nx : ∀ x ∈ F, gi next x ≠ -1 → gi next x ∈ F
  bk : ∀ x ∈ F, ∀ a : Int, 0 ≤ a → a < n → gi next a = x → a ∈ F
  fi : ∀ x ∈ F, (∀ a : Int, 0 ≤ a → a < n → gi next a ≠ x) → x < t

theorem ind_len (n : Nat) : ∀ l : List Int, l.Nodup → (∀ x ∈ l, 0 ≤ x ∧ x < n) → sumTo (fun k => if k ∈ l then 1 else 0) n = l.length
  | [], _, _ => by
    rw [sumTo_congr (g := fun _ => 0) (fun i _ _ => by simp), sumTo_const]; simp
  | x :: l, nd, hr => by
    obtain ⟨h1, h2⟩ := List.nodup_cons.1 nd
    obtain ⟨x0, x1⟩ := hr x (by simp)
    rw [sumTo_congr (g := fun k => (if k = x then 1 else 0) + (if k ∈ l then 1 else 0)) (fun i _ _ => ?_), sumTo_add, sumTo_ind x (fun _ => 1) _ x0 x1, ind_len n l h2 (fun y hy => hr y (by simp [hy]))]
    · simp only [List.length_cons]; omega
    · by_cases e : i = x
      · subst e; simp [h1]
      · simp [e]

theorem count_one {x : Int} : ∀ {l : List Int}, l.Nodup → x ∈ l → l.count x = 1
  | [], _, h => by cases h
  | y :: l, nd, h => by
    obtain ⟨h1, h2⟩ := List.nodup_cons.1 nd
    by_cases e : y = x
    · subst e; simp [List.count_eq_zero.2 h1]
    · have : x ∈ l := (List.mem_cons.1 h).resolve_left (Ne.symm e)
      rw [List.count_cons_of_ne e]; exact count_one h2 this

/-- What the chains of a circulation are. -/
structure Chs (ts : List Task) (r : Rules) (next : List Int) (chains : List (List Int)) : Prop where
  one : ∀ k : Int, 0 ≤ k → k < ts.length → chains.flatten.count k = 1
  rg : ∀ c ∈ chains, ∀ x ∈ c, 0 ≤ x ∧ x < ts.length
  st : ∀ c ∈ chains, ∀ i : Int, 0 < i → i < c.length → gi next (gi c (i - 1)) = gi c i ∧ gi c i ≠ -1
  ne : ∀ c ∈ chains, 1 ≤ c.length ∧ c.length ≤ ts.length
  cnt : (chains.length : Int) = ts.length - jn next ts.length

theorem Ch.last {next : List Int} {first : Int} {c : List Int} {a : Int} (h : Ch next first c a) : (c = [] ∧ a = first) ∨ (0 < c.length ∧ a = gi next (gi c ((c.length : Int) - 1))) := by
  cases h with
  | nil => exact Or.inl ⟨rfl, rfl⟩
  | snoc h hne =>
    rename_i c x
    right
    refine ⟨by simp, ?_⟩
    have : gi (c ++ [x]) (((c ++ [x]).length : Int) - 1) = x := by
      have e : (((c ++ [x]).length : Int) - 1).toNat = c.length := by simp
      unfold gi; rw [e]; simp
    rw [this]

theorem gi_snoc1 (c : List Int) (x : Int) {i : Int} (i0 : 0 ≤ i) (i1 : i < c.length) : gi (c ++ [x]) i = gi c i := by
  have : i.toNat < c.length := by omega
  unfold gi; simp [List.getElem?_append_left this]
theorem gi_snoc2 (c : List Int) (x : Int) : gi (c ++ [x]) c.length = x := by unfold gi; simp

theorem chains_wp {ts : List Task} {r : Rules} (T : TV ts r) {next : List Int} (C : Circ ts r next) : WP (circulation_Chains_m next) (fun y => y.2 = 0 ∧ Chs ts r next y.1) := by
  have hn := T.len
  have hl := C.len
  unfold circulation_Chains_m
  refine wp_ite (fun h => by simp at h; omega) (fun _ => ?_)
  rw [mk_bool (by omega) (by omega)]
  simp only [Option.bind_some]
  have gz : ∀ w : Int, gb (List.replicate (next.length : Int).toNat false) w = false := fun w => by
    unfold gb; simp [List.getElem?_replicate]; split <;> simp
  refine wp_iter (fun (t : List Bool × Nat) => t.2 ≤ ts.length ∧ t.1.length = ts.length ∧ ∀ b : Int, 0 ≤ b → b < ts.length → (gb t.1 b = true ↔ ∃ a : Int, 0 ≤ a ∧ a < t.2 ∧ gi next a = b)) (fun t => 100 - t.2) _ ?_ FUEL _ ⟨Nat.zero_le _, by simp; omega, fun b b0 b1 => ?_⟩ (fuel_of (by simp only; omega))
  · rintro k ⟨fo, t⟩ ⟨ht, hfl, hfo⟩ hc
    simp only at ht hfl hfo hc
    simp only [circulation_Chains_b1]
    refine wp_ite (fun h => ?_) (fun h => ?_)
    · simp only [decide_eq_true_eq] at h
      refine wp_idxi (by omega) (wp_ite (fun hx => ?_) (fun hx => ?_))
      · simp only [decide_eq_true_eq] at hx
        refine hc _ ⟨by simp only; omega, hfl, fun b b0 b1 => ?_⟩ (by simp only; omega)
        simp only
        rw [hfo b b0 b1]
        constructor
        · rintro ⟨a, a0, a1, e⟩; exact ⟨a, a0, by omega, e⟩
        · rintro ⟨a, a0, a1, e⟩
          refine ⟨a, a0, ?_, e⟩
          have : a ≠ t := fun e' => by subst e'; omega
          omega
      · simp only [decide_eq_false_iff_not] at hx
        have hr : 0 ≤ gi next t ∧ gi next t < ts.length := by
          rcases C.ok t (by omega) (by omega) with h' | ⟨h0, h1, _⟩
          · exact absurd h' hx
          · exact ⟨h0, h1⟩
        have hf : gb fo (gi next t) = false := by
          cases e : gb fo (gi next t) with
          | false => rfl
          | true =>
            obtain ⟨a, a0, a1, ea⟩ := (hfo _ hr.1 hr.2).1 e
            have := C.inj a t a0 (by omega) (by omega) (by omega) ea (by omega)
            omega
        refine wp_whn (fun hg => ?_) (fun hg => ?_)
        · refine wp_idxb (by omega) ?_
          rw [hf]
          refine wp_ite (fun h' => ?_) (fun _ => ?_)
          · simp only [Bool.or_false, Bool.or_eq_true, decide_eq_true_eq] at h'
            omega
          · refine wp_idxb (by omega) (hc _ ⟨by simp only; omega, by simp only [List.length_set]; exact hfl, fun b b0 b1 => ?_⟩ (by simp only; omega))
            simp only
            rw [gb_set _ _ _ _ hr.1 b0 (by omega)]
            by_cases e : b = gi next t
            · rw [if_pos e]; exact ⟨fun _ => ⟨t, by omega, by omega, e.symm⟩, fun _ => rfl⟩
            · rw [if_neg e, hfo b b0 b1]
              constructor
              · rintro ⟨a, a0, a1, ea⟩; exact ⟨a, a0, by omega, ea⟩
              · rintro ⟨a, a0, a1, ea⟩
                refine ⟨a, a0, ?_, ea⟩
                have : a ≠ t := fun e' => by subst e'; exact e ea.symm
                omega
        · simp only [Bool.not_eq_false', Bool.or_eq_true, decide_eq_true_eq] at hg
          omega
    · simp only [decide_eq_false_iff_not] at h
      obtain rfl : t = ts.length := by omega
      simp only [circulation_Chains_k1]
      refine wp_iter (fun (t : List (List Int) × Int × Nat) => t.2.2 ≤ ts.length ∧ Fl ts.length next t.1.flatten t.2.2 ∧ (∀ b : Int, 0 ≤ b → b < t.2.2 → gb fo b = false → b ∈ t.1.flatten) ∧ t.2.1 = t.1.flatten.length ∧
          (∀ c ∈ t.1, ∀ x ∈ c, 0 ≤ x ∧ x < ts.length) ∧ (∀ c ∈ t.1, ∀ i : Int, 0 < i → i < c.length → gi next (gi c (i - 1)) = gi c i ∧ gi c i ≠ -1) ∧ (∀ c ∈ t.1, 1 ≤ c.length ∧ c.length ≤ ts.length) ∧ (t.1.length : Int) = sumTo (fun b => if gb fo b then 0 else 1) t.2.2)
        (fun t => 100 - t.2.2) _ ?_ FUEL _ ⟨Nat.zero_le _, ⟨List.nodup_nil, fun x hx => (by cases hx), fun x hx => (by cases hx), fun x hx => (by cases hx), fun x hx => (by cases hx)⟩, fun b _ b1 => by simp only at b1; omega, rfl, fun c hc => (by cases hc), fun c hc => (by cases hc), fun c hc => (by cases hc), rfl⟩ (fuel_of (by simp only; omega))
      rintro k2 ⟨chs, cnt, t⟩ ⟨ht2, FL, hin, hcnt, hrg, hst, hne, hlen⟩ hc2
      simp only at ht2 FL hin hcnt hrg hst hne hlen hc2
      have flen : chs.flatten.length ≤ ts.length := by
        have a := ind_len ts.length _ FL.nd FL.rg
        have b := sumTo_le (f := fun k => if k ∈ chs.flatten then 1 else 0) (g := fun _ => 1) (n := ts.length) (fun i _ _ => by split <;> omega)
        rw [sumTo_const] at b
        omega
      have clen : (chs.length : Int) ≤ ts.length := by
        rw [hlen]
        have b := sumTo_le (f := fun b => if gb fo b then 0 else 1) (g := fun _ => 1) (n := t) (fun i _ _ => by split <;> omega)
        rw [sumTo_const] at b
        omega
      simp only [circulation_Chains_b2]
      refine wp_ite (fun h2 => ?_) (fun h2 => ?_)
      · simp only [decide_eq_true_eq] at h2
        have t1 : (t : Int) < ts.length := by omega
        refine wp_idxb (by omega) (wp_ite (fun hf => ?_) (fun hf => ?_))
        · refine hc2 _ ⟨by simp only; omega, ⟨FL.nd, FL.rg, FL.nx, FL.bk, fun x hx hno => by have := FL.fi x hx hno; simp only; omega⟩, fun b b0 b1 hb => ?_, hcnt, hrg, hst, hne, ?_⟩ (by simp only; omega)
          · by_cases e : b = t
            · subst e; rw [hf] at hb; cases hb
            · exact hin b b0 (by simp only at b1; omega) hb
          · simp only; rw [sumTo, hf, ← hlen]; simp
        · -- a chain
          have unf : ∀ a : Int, 0 ≤ a → a < ts.length → gi next a ≠ t := fun a a0 a1 e => by
            have := (hfo t (by omega) t1).2 ⟨a, a0, a1, e⟩
            rw [hf] at this; cases this
          have tnot : (t : Int) ∉ chs.flatten := fun h => by have := FL.fi t h unf; omega
          refine wp_iter (fun (s : List Int × Int) => Ch next t s.1 s.2 ∧ (chs.flatten ++ s.1).Nodup ∧ (∀ x ∈ s.1, 0 ≤ x ∧ x < ts.length) ∧ (∀ x ∈ s.1, x ≠ t → ∃ y ∈ s.1, gi next y = x) ∧ (∀ x ∈ s.1, gi next x = s.2 ∨ gi next x ∈ s.1) ∧
              (s.2 = -1 ∨ (0 ≤ s.2 ∧ s.2 < ts.length ∧ s.2 ∉ chs.flatten ∧ (∀ x ∈ s.1, (tk ts x).Start < (tk ts s.2).Start))) ∧ (s.1 = [] → s.2 = t) ∧ (s.2 ≠ -1 → s.2 ≠ t → ∃ y ∈ s.1, gi next y = s.2) ∧
              (∀ i : Int, 0 < i → i < s.1.length → gi next (gi s.1 (i - 1)) = gi s.1 i ∧ gi s.1 i ≠ -1))
            (fun s => 2 * (ts.length - s.1.length) + (if s.2 = -1 then 0 else 1)) _ ?_ FUEL _ ⟨Ch.nil, by simpa using FL.nd, fun x hx => (by cases hx), fun x hx => (by cases hx), fun x hx => (by cases hx), Or.inr ⟨by simp only; omega, t1, tnot, fun x hx => (by cases hx)⟩, fun _ => rfl, fun _ h => absurd rfl h, fun i i0 i1 => by simp at i1; omega⟩ (fuel_of (by simp only; split <;> simp <;> omega))
          rintro k3 ⟨c, a⟩ ⟨hch, hnd, hcr, hpr, hnx, ha, hemp, hap, hcs⟩ hc3
          simp only at hch hnd hcr hpr hnx ha hemp hap hcs hc3
          have cl : c.length ≤ ts.length := by
            have nd2 : c.Nodup := (List.nodup_append.1 hnd).2.1
            have a := ind_len ts.length _ nd2 hcr
            have b := sumTo_le (f := fun k => if k ∈ c then 1 else 0) (g := fun _ => 1) (n := ts.length) (fun i _ _ => by split <;> omega)
            rw [sumTo_const] at b
            omega
          simp only [circulation_Chains_b3]
          refine wp_ite (fun h3 => ?_) (fun h3 => ?_)
          · simp only [decide_eq_true_eq] at h3
            obtain ⟨a0, a1, anf, ast⟩ := ha.resolve_left h3
            have anc : a ∉ c := fun h => by have := ast a h; omega
            have nd' : (chs.flatten ++ (c ++ [a])).Nodup := by
              rw [← List.append_assoc, List.nodup_append]
              refine ⟨hnd, by simp, fun x hx y hy e => ?_⟩
              rw [List.mem_singleton] at hy
              subst hy e
              rw [List.mem_append] at hx
              rcases hx with hx | hx
              · exact anf hx
              · exact anc hx
            refine wp_chk (by simp; omega) (wp_idxi (by omega) ?_)
            have cl' : (c ++ [a]).length ≤ ts.length := by
              have nd2 : (c ++ [a]).Nodup := (List.nodup_append.1 nd').2.1
              have hr2 : ∀ x ∈ c ++ [a], 0 ≤ x ∧ x < ts.length := fun x hx => by
                rw [List.mem_append, List.mem_singleton] at hx
                rcases hx with hx | rfl
                · exact hcr x hx
                · exact ⟨a0, a1⟩
              have a' := ind_len ts.length _ nd2 hr2
              have b := sumTo_le (f := fun k => if k ∈ c ++ [a] then 1 else 0) (g := fun _ => 1) (n := ts.length) (fun i _ _ => by split <;> omega)
              rw [sumTo_const] at b
              omega
            refine hc3 _ ⟨Ch.snoc hch h3, nd', ?_, ?_, ?_, ?_, ?_, ?_, ?_⟩ ?_
            · intro x hx
              simp only [List.mem_append, List.mem_singleton] at hx
              rcases hx with hx | rfl
              · exact hcr x hx
              · exact ⟨a0, a1⟩
            · intro x hx hxt
              simp only [List.mem_append, List.mem_singleton] at hx ⊢
              rcases hx with hx | rfl
              · obtain ⟨y, hy, e⟩ := hpr x hx hxt
                exact ⟨y, Or.inl hy, e⟩
              · obtain ⟨y, hy, e⟩ := hap h3 hxt
                exact ⟨y, Or.inl hy, e⟩
            · intro x hx
              simp only [List.mem_append, List.mem_singleton] at hx ⊢
              rcases hx with hx | rfl
              · rcases hnx x hx with e | e
                · exact Or.inr (Or.inr e)
                · exact Or.inr (Or.inl e)
              · exact Or.inl rfl
            · simp only
              rcases C.ok a a0 a1 with h' | ⟨h0, h1, hfo'⟩
              · exact Or.inl h'
              · right
                have lt := T.later a0 a1 hfo'
                refine ⟨h0, h1, fun hmem => ?_, fun x hx => ?_⟩
                · exact anf (FL.bk _ hmem a a0 a1 rfl)
                · rw [List.mem_append, List.mem_singleton] at hx
                  rcases hx with hx | rfl
                  · have := ast x hx; omega
                  · exact lt
            · intro h; simp at h
            · intro _ _
              exact ⟨a, by simp, rfl⟩
            · intro i i0 i1
              simp only [List.length_append, List.length_singleton] at i1 ⊢
              by_cases e : i = c.length
              · subst e
                rw [gi_snoc2, gi_snoc1 c a (by omega) (by omega)]
                refine ⟨?_, h3⟩
                rcases hch.last with ⟨e', _⟩ | ⟨_, e'⟩
                · rw [e'] at i0; simp at i0
                · exact e'.symm
              · rw [gi_snoc1 c a (by omega) (by omega), gi_snoc1 c a (by omega) (by omega)]
                exact hcs i i0 (by omega)
            · simp only [List.length_append, List.length_singleton] at cl' ⊢
              rw [if_neg h3]
              split <;> omega
          · simp only [decide_eq_false_iff_not, Decidable.not_not] at h3
            subst h3
            have cne : c ≠ [] := fun h => by have := hemp h; omega
            have ft : (chs ++ [c]).flatten = chs.flatten ++ c := by simp
            have tin : (t : Int) ∈ c := by
              -- going back from any member one comes to the first
              have back : ∀ (m : Nat) (x : Int), x ∈ c → (tk ts x).Start.toNat ≤ m → (t : Int) ∈ c := by
                intro m
                induction m with
                | zero =>
                  intro x hx hm
                  by_cases e : x = t
                  · rw [← e]; exact hx
                  · obtain ⟨y, hy, e'⟩ := hpr x hx e
                    obtain ⟨y0, y1⟩ := hcr y hy
                    obtain ⟨x0, x1⟩ := hcr x hx
                    rcases C.ok y y0 y1 with h' | ⟨_, _, hf'⟩
                    · omega
                    · have := T.later y0 y1 hf'
                      rw [e'] at this
                      have hs : 0 ≤ (tk ts y).Start := by
                        have hg := T.h
                        simp only [tasksB, Bool.and_eq_true] at hg
                        have hm' : tk ts y ∈ ts := by
                          have : y.toNat < ts.length := by omega
                          unfold tk; simp [this]
                        have := List.all_eq_true.1 hg.2.1 _ hm'
                        simp [taskB] at this
                        omega
                      omega
                | succ m ih =>
                  intro x hx hm
                  by_cases e : x = t
                  · rw [← e]; exact hx
                  · obtain ⟨y, hy, e'⟩ := hpr x hx e
                    obtain ⟨y0, y1⟩ := hcr y hy
                    rcases C.ok y y0 y1 with h' | ⟨_, _, hf'⟩
                    · obtain ⟨x0, x1⟩ := hcr x hx; omega
                    · have := T.later y0 y1 hf'
                      rw [e'] at this
                      exact ih y hy (by omega)
              obtain ⟨x, hx⟩ := List.exists_mem_of_ne_nil c cne
              exact back _ x hx (Nat.le_refl _)
            simp only [circulation_Chains_k5]
            refine wp_chk (by simp; omega) (wp_i64 (by omega) ?_)
            simp only [circulation_Chains_k4]
            have cpos : 1 ≤ c.length := by
              cases c with
              | nil => exact absurd rfl cne
              | cons _ _ => simp
            refine hc2 _ ⟨by simp only; omega, ?_, ?_, ?_, ?_, ?_, ?_, ?_⟩ (by simp only; omega)
            · simp only
              rw [ft]
              refine ⟨hnd, fun x hx => ?_, fun x hx hxn => ?_, fun x hx a a0 a1 e => ?_, fun x hx hno => ?_⟩
              · rw [List.mem_append] at hx
                rcases hx with hx | hx
                · exact FL.rg x hx
                · exact hcr x hx
              · rw [List.mem_append] at hx ⊢
                rcases hx with hx | hx
                · exact Or.inl (FL.nx x hx hxn)
                · rcases hnx x hx with e | e
                  · exact absurd e hxn
                  · exact Or.inr e
              · rw [List.mem_append] at hx ⊢
                rcases hx with hx | hx
                · exact Or.inl (FL.bk x hx a a0 a1 e)
                · by_cases ext : x = t
                  · rw [ext] at e; exact absurd e (unf a a0 a1)
                  · obtain ⟨y, hy, e'⟩ := hpr x hx ext
                    obtain ⟨y0, y1⟩ := hcr y hy
                    obtain ⟨x0, x1⟩ := hcr x hx
                    have := C.inj a y a0 a1 y0 y1 (e.trans e'.symm) (by omega)
                    rw [this]; exact Or.inr hy
              · rw [List.mem_append] at hx
                rcases hx with hx | hx
                · have := FL.fi x hx hno; omega
                · by_cases ext : x = t
                  · omega
                  · obtain ⟨y, hy, e'⟩ := hpr x hx ext
                    obtain ⟨y0, y1⟩ := hcr y hy
                    exact absurd e' (hno y y0 y1)
            · intro b b0 b1 hb
              simp only at b1 ⊢
              rw [ft, List.mem_append]
              by_cases e : b = t
              · rw [e]; exact Or.inr tin
              · exact Or.inl (hin b b0 (by omega) hb)
            · simp only; rw [ft, hcnt, List.length_append]; omega
            · intro c' hc'
              simp only [List.mem_append, List.mem_singleton] at hc'
              rcases hc' with hc' | rfl
              · exact hrg c' hc'
              · exact hcr
            · intro c' hc'
              simp only [List.mem_append, List.mem_singleton] at hc'
              rcases hc' with hc' | rfl
              · exact hst c' hc'
              · exact hcs
            · intro c' hc'
              simp only [List.mem_append, List.mem_singleton] at hc'
              rcases hc' with hc' | rfl
              · exact hne c' hc'
              · exact ⟨cpos, cl⟩
            · simp only [List.length_append, List.length_singleton]
              rw [sumTo, hf, ← hlen]
              simp
      · simp only [decide_eq_false_iff_not] at h2
        obtain rfl : t = ts.length := by omega
        -- everything is in a chain
        have allin : ∀ (m : Nat) (k : Int), 0 ≤ k → k < ts.length → (tk ts k).Start.toNat ≤ m → k ∈ chs.flatten := by
          intro m
          induction m with
          | zero =>
            intro k k0 k1 hm
            cases e : gb fo k with
            | false => exact hin k k0 k1 e
            | true =>
              obtain ⟨a, a0, a1, ea⟩ := (hfo k k0 k1).1 e
              rcases C.ok a a0 a1 with h' | ⟨_, _, hf'⟩
              · omega
              · have := T.later a0 a1 hf'
                rw [ea] at this
                have hs : 0 ≤ (tk ts a).Start := by
                  have hg := T.h
                  simp only [tasksB, Bool.and_eq_true] at hg
                  have hm' : tk ts a ∈ ts := by
                    have : a.toNat < ts.length := by omega
                    unfold tk; simp [this]
                  have := List.all_eq_true.1 hg.2.1 _ hm'
                  simp [taskB] at this
                  omega
                omega
          | succ m ih =>
            intro k k0 k1 hm
            cases e : gb fo k with
            | false => exact hin k k0 k1 e
            | true =>
              obtain ⟨a, a0, a1, ea⟩ := (hfo k k0 k1).1 e
              rcases C.ok a a0 a1 with h' | ⟨_, _, hf'⟩
              · omega
              · have := T.later a0 a1 hf'
                rw [ea] at this
                have hain := ih a a0 a1 (by omega)
                have := FL.nx a hain (by omega)
                rw [ea] at this
                exact this
        have full : chs.flatten.length = ts.length := by
          have a := ind_len ts.length _ FL.nd FL.rg
          rw [sumTo_congr (g := fun _ => 1) (fun i i0 i1 => by rw [if_pos (allin _ i i0 i1 (Nat.le_refl _))]), sumTo_const] at a
          omega
        simp only [circulation_Chains_k3]
        refine wp_ite (fun h' => by simp at h'; omega) (fun _ => wp_some ⟨rfl, ?_, hrg, hst, hne, ?_⟩)
        · intro k k0 k1
          exact count_one FL.nd (allin _ k k0 k1 (Nat.le_refl _))
        · simp only
          rw [hlen]
          have e : sumTo (fun b => if gb fo b then (0 : Int) else 1) ts.length + jn next ts.length = ts.length := by
            have swap : jn next ts.length = sumTo (fun b => if gb fo b then 1 else 0) ts.length := by
              unfold jn
              rw [sumTo_congr (f := fun b => if gb fo b then (1 : Int) else 0) (g := fun b => sumTo (fun a => if gi next a = b then 1 else 0) ts.length) (fun b b0 b1 => ?_)]
              · rw [sumTo_swap (fun b a => if gi next a = b then 1 else 0)]
                refine sumTo_congr (fun a a0 a1 => ?_)
                rcases C.ok a a0 a1 with h' | ⟨h0, h1, _⟩
                · rw [if_pos h', sumTo_zero (fun b b0 b1 => by rw [if_neg (by omega)])]
                · rw [if_neg (by omega), sumTo_congr (g := fun b => if b = gi next a then 1 else 0) (fun b _ _ => ?_), sumTo_ind _ (fun _ => 1) _ h0 h1]
                  by_cases e : b = gi next a
                  · rw [if_pos e, if_pos e.symm]
                  · rw [if_neg e, if_neg (Ne.symm e)]
              · by_cases hex : ∃ a : Int, 0 ≤ a ∧ a < ts.length ∧ gi next a = b
                · rw [(hfo b b0 b1).2 hex]
                  obtain ⟨a, a0, a1, ea⟩ := hex
                  rw [sumTo_congr (g := fun i => if i = a then 1 else 0) (fun i i0 i1 => ?_), sumTo_ind a (fun _ => 1) _ a0 a1]
                  · simp
                  · by_cases c1 : i = a
                    · rw [if_pos c1, c1, if_pos ea]
                    · rw [if_neg c1, if_neg (fun e' => c1 (C.inj i a i0 i1 a0 a1 (e'.trans ea.symm) (by omega)))]
                · have : gb fo b = false := by
                    cases e : gb fo b with
                    | false => rfl
                    | true => exact absurd ((hfo b b0 b1).1 e) hex
                  rw [this, sumTo_zero (fun a a0 a1 => by rw [if_neg (fun e => hex ⟨a, a0, a1, e⟩)])]
                  simp
            rw [swap, ← sumTo_add, sumTo_congr (g := fun _ => 1) (fun b _ _ => by split <;> rfl), sumTo_const]
            simp
          omega
  · simp only
    rw [gz]
    exact ⟨fun h => (by cases h), fun ⟨a, a0, a1, _⟩ => by omega⟩
end Go.Proofs.Ytedocibniankjaa

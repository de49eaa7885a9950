/- CirculationFewest, the plain law. -/
import Derived.Test.YtedocibniankjaaQt
import Derived.Test.YtedocibniankjaaCe
import Derived.Test.YtedocibniankjaaWCirculationFewest
namespace Go.Proofs.Ytedocibniankjaa
open Go.Dc

/-- A value of a kind, if there is one. -/
def PC {α : Type} (o : Option α) (Q : α → Prop) : Prop := ∀ y, o = some y → Q y
theorem pc_some {α : Type} {y : α} {Q : α → Prop} (h : Q y) : PC (some y) Q := fun _ e => by cases e; exact h
theorem pc_bind {α β : Type} {o : Option α} {K : α → Option β} {Q : β → Prop} (h : ∀ x, o = some x → PC (K x) Q) : PC (o.bind K) Q := fun y e => by
  cases o with
  | none => cases e
  | some x => exact h x rfl y e
theorem pc_chk {α : Type} {c : Bool} {k : Option α} {Q : α → Prop} (h : PC k Q) : PC (chk c k) Q := fun y e => by
  cases c with
  | true => exact h y e
  | false => cases e
theorem pc_ite {α : Type} {c : Bool} {a b : Option α} {Q : α → Prop} (h1 : PC a Q) (h2 : PC b Q) : PC (if c then a else b) Q := by
  cases c with
  | true => exact h1
  | false => exact h2
theorem pc_iter {σ β : Type} {B : (σ → Option β) → σ → Option β} (I : σ → Prop) (Q : β → Prop) (h : ∀ c s, I s → (∀ s', I s' → PC (c s') Q) → PC (B c s) Q) : ∀ n s, I s → PC (iter B n s) Q := by
  intro n
  induction n with
  | zero => intro s _ y e; cases e
  | succ n ih => intro s hI; exact h _ s hI ih
theorem pc_next {β : Type} {l : List Int} {i : Int} (h : SrcOk l i) (n : Int) (h0 : 1 ≤ n) (h1 : n ≤ 4611686018427387904) {K : Int × Int → Option β} {Q : β → Prop} (hk : ∀ v j, 0 ≤ v → v < n → SrcOk l j → PC (K (v, j)) Q) :
    PC ((keep_Source_Next_m (Keep_Source.mk l i) n).bind K) Q := by
  obtain ⟨v, j, e, a, b, c⟩ := next_m h n h0 h1
  rw [e]
  exact hk v j a b c

theorem tasks_short (l : List Int) (hl : l.length ≤ 140737488355328) : PC (keep2_Tasks_m l) (fun y => ∀ x ∈ y.1, x.End - x.Start ≤ 30) := by
  have hi : SrcOk l 0 := ⟨by omega, by omega, hl⟩
  unfold keep2_Tasks_m keep_From_m
  simp only [Option.bind_some]
  refine pc_next hi 8 (by omega) (by omega) (fun v1 j1 _ _ h1 => ?_)
  refine pc_next h1 30 (by omega) (by omega) (fun v2 j2 _ _ h2 => ?_)
  refine pc_next h2 60 (by omega) (by omega) (fun v3 j3 _ _ h3 => pc_chk ?_)
  refine pc_next h3 4 (by omega) (by omega) (fun v4 j4 _ _ h4 => ?_)
  refine pc_iter (fun (s : Int × List EmptyT × Int) => SrcOk l s.1) _ ?_ _ _ h4
  rintro c ⟨i, es, k⟩ hs hc
  simp only at hs
  simp only [keep2_Tasks_b1]
  refine pc_ite ?_ ?_
  · refine pc_next hs 3 (by omega) (by omega) (fun v1 j1 _ _ h1 => pc_chk ?_)
    refine pc_next h1 2 (by omega) (by omega) (fun v2 j2 _ _ h2 => pc_chk ?_)
    refine pc_next h2 20 (by omega) (by omega) (fun v3 j3 _ _ h3 => pc_chk (pc_chk (pc_chk ?_)))
    exact hc _ h3
  · simp only [keep2_Tasks_k1]
    refine pc_iter (fun (s : Int × List Int × Nat) => SrcOk l s.1) _ ?_ _ _ hs
    rintro c2 ⟨i, sh, k⟩ hs hc2
    simp only at hs
    simp only [keep2_Tasks_b2]
    refine pc_ite ?_ ?_
    · refine pc_next hs 2 (by omega) (by omega) (fun v1 j1 _ _ h1 => ?_)
      exact pc_ite (pc_chk (hc2 _ h1)) (hc2 _ h1)
    · simp only [keep2_Tasks_k2]
      refine pc_next hs 6 (by omega) (by omega) (fun v1 j1 _ _ h1 => ?_)
      refine pc_iter (fun (s : Int × List Task × Int) => SrcOk l s.1 ∧ ∀ x ∈ s.2.1, x.End - x.Start ≤ 30) _ ?_ _ _ ⟨h1, fun x hx => (by cases hx)⟩
      rintro c3 ⟨i, ts, k⟩ ⟨hs, hts⟩ hc3
      simp only at hs hts
      simp only [keep2_Tasks_b3]
      refine pc_ite ?_ (pc_some hts)
      refine pc_next hs 120 (by omega) (by omega) (fun v1 j1 _ _ h1 => ?_)
      refine pc_next h1 4 (by omega) (by omega) (fun v2 j2 _ _ h2 => pc_chk ?_)
      refine pc_next h2 3 (by omega) (by omega) (fun v3 j3 _ _ h3 => ?_)
      refine pc_next h3 3 (by omega) (by omega) (fun v4 j4 _ _ h4 => pc_chk ?_)
      refine pc_next h4 30 (by omega) (by omega) (fun v5 j5 a5 b5 h5 => pc_chk (pc_chk (pc_chk ?_)))
      refine hc3 _ ⟨h5, fun x hx => ?_⟩
      simp only [List.mem_append, List.mem_singleton] at hx
      rcases hx with hx | rfl
      · exact hts x hx
      · simp only; omega

/-- A vehicle that begins later has run less. -/
theorem Rn_later {ts : List Task} {r : Rules} (T : TV ts r) {ch : List Int} (C : Cn ts r ch) {f : Int} (f0 : 0 ≤ f) (d : Nat) : ∀ k : Nat, f + d + k ≤ ch.length → Rn ts r ch (f + d) k ≤ Rn ts r ch f (d + k)
  | 0, h => by
    have := (Rn_bd T ch f f0 C.rg (d + 0) (by omega)).1
    simpa [Rn] using this
  | k + 1, h => by
    have ih := Rn_later T C f0 d k (by omega)
    have bd := Rn_bd T ch f f0 C.rg (d + k) (by omega)
    have sb := T.sec (gi ch (f + d + k - 1)) (gi ch (f + d + k))
    have e : f + ((d + k : Nat) : Int) = f + d + k := by omega
    rw [← Nat.add_assoc]
    simp only [Rn]
    rw [e]
    unfold sec
    by_cases hk : k = 0
    · subst hk
      rw [if_pos rfl]
      split
      · omega
      · split <;> omega
    · rw [if_neg hk, if_neg (show ¬ d + k = 0 by omega)]
      split <;> omega
theorem PM.later {ts : List Task} {r : Rules} (T : TV ts r) {ch : List Int} (C : Cn ts r ch) {f : Int} (f0 : 0 ≤ f) {d k : Nat} (h : f + d + k ≤ ch.length) (p : PM ts r ch f (d + k)) : PM ts r ch (f + d) k := fun j j1 j2 => by
  have a := Rn_later T C f0 d j (by omega)
  have b := p (d + j) (by omega) (by omega)
  omega

/-- Where the first m parts end. -/
def pend : List (List Int) → Nat → Int
  | _, 0 => 0
  | [], _ + 1 => 0
  | p :: q, m + 1 => p.length + pend q m

theorem GC.reach {ts : List Task} {r : Rules} (T : TV ts r) {ch : List Int} (C : Cn ts r ch) {f : Int} {a : List (List Int)} (h : GC ts r ch f a) : ∀ (m : Nat) (from_ i : Int), m < a.length → 0 ≤ from_ → from_ ≤ f + pend a m → from_ ≤ i → i ≤ ch.length → PM ts r ch from_ (i - from_).toNat → i ≤ f + pend a (m + 1) := by
  induction h with
  | nil => intro m _ _ hm; simp at hm
  | cons f0 k1 kl hp hmx hr ih =>
    rename_i f k rest
    intro m from_ i hm g0 g1 g2 g3 hpm
    have cl := cutS_len ch (k := k) f0 kl
    cases m with
    | zero =>
      simp only [pend] at g1 ⊢
      rw [cl]
      refine Classical.byContradiction fun hgt => ?_
      -- the part could be longer
      have h1 : PM ts r ch f (i - f).toNat := by
        by_cases e : from_ ≤ f
        · have := PM.later T C g0 (d := (f - from_).toNat) (k := (i - f).toNat) (by omega) (by rw [show (f - from_).toNat + (i - f).toNat = (i - from_).toNat by omega]; exact hpm)
          rw [show from_ + (((f - from_).toNat : Nat) : Int) = f by omega] at this
          exact this
        · omega
      rcases hmx with h2 | h2
      · omega
      · have := h1 (k + 1) (by omega) (by omega)
        omega
    | succ m =>
      simp only [pend, List.length_cons] at g1 hm ⊢
      rw [cl] at g1 ⊢
      have := ih m from_ i (by omega) g0 (by omega) g2 g3 hpm
      omega

theorem GC.all {ts : List Task} {r : Rules} {ch : List Int} {f : Int} {a : List (List Int)} (h : GC ts r ch f a) : f + pend a a.length = ch.length ∧ (∀ m : Nat, m < a.length → f + pend a m < ch.length) ∧ ∀ p ∈ a, 1 ≤ p.length ∧ PM ts r p 0 p.length ∧ ∀ x ∈ p, x ∈ ch := by
  induction h with
  | nil => exact ⟨by simp [pend], fun m hm => by simp at hm, fun p hp => (by cases hp)⟩
  | cons f0 k1 kl hp hmx hr ih =>
    rename_i f k rest
    have cl := cutS_len ch (k := k) f0 kl
    refine ⟨?_, fun m hm => ?_, fun p hp' => ?_⟩
    · simp only [List.length_cons, pend]; rw [cl]; omega
    · cases m with
      | zero => simp only [pend]; omega
      | succ m =>
        simp only [List.length_cons, pend] at hm ⊢
        rw [cl]
        have := ih.2.1 m (by omega)
        omega
    · rw [List.mem_cons] at hp'
      rcases hp' with rfl | hp'
      · refine ⟨by omega, fun j j1 j2 => ?_, fun x hx => ?_⟩
        · rw [cl] at j2
          rw [Rn_congr (ch' := ch) (f' := f) j (fun i hi => by rw [show (0 : Int) + (i : Int) = i by omega]; exact cutS_gi ch f0 kl (by omega))]
          exact hp j j1 j2
        · exact List.mem_of_mem_take (List.mem_of_mem_drop hx)
      · exact ih.2.2 p hp'

theorem permis_wp {ts : List Task} {r : Rules} (T : TV ts r) (p : List Int) (hl : p.length ≤ 1000000) (hr : ∀ i : Int, 0 ≤ i → i < p.length → 0 ≤ gi p i ∧ gi p i < ts.length) : WP (ref24_Permissible_m ts r p) (fun b => b = true ↔ PM ts r p 0 p.length) := by
  unfold ref24_Permissible_m
  exact wp_bind _ (perm_wp T p hl hr) (fun b hb => wp_some hb)

theorem circFewest_plain (l : List Int) (limit : Int) (hl : Wf.wf l) (_ : -9223372036854775808 ≤ limit ∧ limit ≤ 9223372036854775807) : law28_CirculationFewest_m l limit = some true := by
  have k : WP (law28_CirculationFewest_m l limit) (fun b => b = true) := by
    obtain ⟨⟨ts, r⟩, hy, hg, g1, g2, g3⟩ := tasks_m l (wf_len hl)
    have short := tasks_short l (wf_len hl) _ hy
    simp only at hg g1 short
    have T0 : TV ts r := ⟨hg⟩
    unfold law28_CirculationFewest_m
    refine wp_is hy ?_
    simp only
    obtain ⟨q, hq, q0, q1⟩ := pick_m limit 60 (by omega) (by omega)
    refine wp_is hq (wp_i64 (by omega) ?_)
    have T := tv_limit T0 (L := 31 + q) (by omega) (by omega)
    refine wp_bind _ (build_wp T (by omega)) ?_
    rintro ⟨next, c, e⟩ ⟨he, B⟩
    simp only at he B
    subst he
    have C := B.cov.ci
    have hlen := C.len
    simp only
    rw [chains_eq]
    refine wp_bind _ (chains_wp T C) ?_
    rintro ⟨chs, e⟩ ⟨he, H⟩
    simp only at he H
    subst he
    have jb := jn_bd next ts.length
    have cl : chs.length ≤ ts.length := by have := H.cnt; omega
    refine wp_ite (fun h => by simp at h; omega) (fun _ => ?_)
    refine wp_iter (fun (t : Nat) => t ≤ chs.length) (fun t => 100 - t) _ ?_ FUEL _ (Nat.zero_le _) (fuel_of (by omega))
    intro k1 t ht hc
    simp only [law28_CirculationFewest_b1]
    refine wp_ite (fun h => ?_) (fun h => ?_)
    · simp only [decide_eq_true_eq] at h
      have hlt : t < chs.length := by omega
      have hcm : chs[t] ∈ chs := List.getElem_mem hlt
      have hne := H.ne _ hcm
      have CN := Chs.cn C H hcm
      refine wp_idx (x := chs[t]) (by omega) (by simp [hlt]) ?_
      generalize chs[t] = ch at hcm hne CN
      obtain ⟨y, h1, _, h3, _⟩ := split_both T ch (by omega)
      obtain ⟨e0, G⟩ := h3.2.2 CN (fun i i0 i1 => by
        obtain ⟨x0, x1⟩ := CN.rg i i0 i1
        have hm : tk ts (gi ch i) ∈ ts := by
          have : (gi ch i).toNat < ts.length := by omega
          unfold tk; simp [this]
        have := short _ hm
        unfold tlen
        simp only
        omega)
      obtain ⟨y1, y2⟩ := y
      simp only at e0 G
      subst e0
      obtain ⟨ga, gb', gp⟩ := G.all
      obtain ⟨gl1, gl2⟩ := G.bd
      refine wp_is h1 (wp_ite (fun h' => by simp at h') (fun _ => ?_))
      have hrp : ∀ p : List Int, (∀ x ∈ p, x ∈ ch) → ∀ i : Int, 0 ≤ i → i < p.length → 0 ≤ gi p i ∧ gi p i < ts.length := fun p hp i i0 i1 => by
        have hm : gi p i ∈ p := by
          have : i.toNat < p.length := by omega
          unfold gi; simp [this]
        exact H.rg ch hcm _ (hp _ hm)
      refine wp_iter (fun (t : Nat) => t ≤ y1.length) (fun t => 100 - t) _ ?_ FUEL _ (Nat.zero_le _) (fuel_of (by omega))
      intro k2 i hi hc2
      simp only [law28_CirculationFewest_b2]
      refine wp_ite (fun h2 => ?_) (fun h2 => ?_)
      · simp only [decide_eq_true_eq] at h2
        have hlt2 : i < y1.length := by omega
        obtain ⟨p1, p2, p3⟩ := gp _ (List.getElem_mem hlt2)
        have pl := gl2 _ (List.getElem_mem hlt2)
        refine wp_idx (x := y1[i]) (by omega) (by simp [hlt2]) ?_
        have ez : decide ((y1[i].length : Int) = 0) = false := decide_eq_false (by omega)
        rw [ez]
        refine wp_whn (fun _ => ?_) (fun h => by cases h)
        refine wp_bind _ (permis_wp T y1[i] (by omega) (hrp _ p3)) ?_
        intro b hb
        rw [hb.2 p2]
        refine wp_ite (fun h' => by cases h') (fun _ => hc2 _ (by omega) (by omega))
      · simp only [law28_CirculationFewest_k3]
        have shl : ∀ n : Nat, n ≤ 4 → shlI .i64 1 (n : Int) = 2 ^ n := by
          intro n hn
          have : n = 0 ∨ n = 1 ∨ n = 2 ∨ n = 3 ∨ n = 4 := by omega
          rcases this with rfl | rfl | rfl | rfl | rfl <;> decide
        have es := shl (ch.length - 1) (by omega)
        rw [show (((ch.length - 1 : Nat)) : Int) = (ch.length : Int) - 1 by omega] at es
        have p16 : (2 : Int) ^ (ch.length - 1) ≤ 16 := by
          have : ch.length - 1 = 0 ∨ ch.length - 1 = 1 ∨ ch.length - 1 = 2 ∨ ch.length - 1 = 3 ∨ ch.length - 1 = 4 := by omega
          rcases this with h | h | h | h | h <;> rw [h] <;> decide
        refine wp_iter (fun (t : Nat) => t ≤ 16) (fun t => 100 - t) _ ?_ FUEL _ (Nat.zero_le _) (fuel_of (by omega))
        intro k3 cuts hcu hc3
        simp only [law28_CirculationFewest_b3]
        rw [es]
        refine wp_i64 (by omega) (wp_chk (by simp; omega) (wp_ite (fun h3 => ?_) (fun h3 => ?_)))
        · simp only [decide_eq_true_eq] at h3
          have next3 : WP (law28_CirculationFewest_k4 cuts k3 ()) (fun b => b = true) := by
            simp only [law28_CirculationFewest_k4]
            exact wp_i64 (by omega) (hc3 _ (by omega) (by omega))
          have ypos : 1 ≤ y1.length := by
            refine Classical.byContradiction fun hz => ?_
            have : y1.length = 0 := by omega
            rw [this] at ga
            simp only [pend] at ga
            omega
          refine wp_iter (fun (t : Int × Int × Bool × Nat) => 1 ≤ t.2.2.2 ∧ t.2.2.2 ≤ ch.length ∧ 1 ≤ t.1 ∧ t.1 ≤ t.2.2.2 ∧ 0 ≤ t.2.1 ∧ t.2.1 < t.2.2.2 ∧ (t.2.2.1 = true → t.1 ≤ y1.length → t.2.1 ≤ pend y1 (t.1 - 1).toNat))
            (fun t => 100 - t.2.2.2) _ ?_ FUEL _ ⟨by simp, by simp only; omega, by simp, by simp, by simp, by simp, fun _ _ => by simp [pend]⟩ (fuel_of (by simp only; omega))
          rintro k4 ⟨n, from_, good, i⟩ ⟨i1, i2, n1, n2, f0, f1, hgood⟩ hc4
          simp only at i1 i2 n1 n2 f0 f1 hgood hc4
          simp only [law28_CirculationFewest_b4]
          have step : ∀ j : Nat, i ≤ j → j ≤ ch.length → ∃ p, sub ch from_ (j : Int) = some p ∧ ∃ b, ref24_Permissible_m ts (Rules.mk r.Turn r.Empties r.Shops r.Service (31 + q)) p = some b ∧ (b = true → PM ts (Rules.mk r.Turn r.Empties r.Shops r.Service (31 + q)) ch from_ ((j : Int) - from_).toNat) := by
            intro j hij hj
            have hsub : sub ch from_ (j : Int) = some (cutS ch from_ ((j : Int) - from_).toNat) := by
              unfold sub
              rw [if_pos (by omega)]
              unfold cutS
              rw [show from_ + ((((j : Int) - from_).toNat : Nat) : Int) = j by omega]
            have cl2 := cutS_len ch (k := ((j : Int) - from_).toNat) f0 (by omega)
            obtain ⟨b, hb, hbi⟩ := permis_wp T (cutS ch from_ ((j : Int) - from_).toNat) (by omega) (hrp _ (fun x hx => List.mem_of_mem_take (List.mem_of_mem_drop hx)))
            refine ⟨_, hsub, b, hb, fun hbt => ?_⟩
            have P := hbi.1 hbt
            rw [cl2] at P
            intro a a1 a2
            have := P a a1 a2
            rw [Rn_congr (ch' := ch) (f' := from_) a (fun i hi => by rw [show (0 : Int) + (i : Int) = i by omega]; exact cutS_gi ch f0 (by omega) (by omega))] at this
            exact this
          refine wp_ite (fun h4 => ?_) (fun h4 => ?_)
          · simp only [decide_eq_true_eq] at h4
            refine wp_i64 (by omega) (wp_chk (by simp; omega) (wp_ite (fun _ => ?_) (fun _ => ?_)))
            · refine wp_ite (fun hgd => ?_) (fun hgd => ?_)
              · obtain ⟨p, hp, b, hb, hbP⟩ := step i (Nat.le_refl _) i2
                refine wp_is hp (wp_is hb (wp_i64 (by omega) ?_))
                simp only [law28_CirculationFewest_k6]
                refine wp_i64 (by omega) (hc4 _ ⟨by simp only; omega, by simp only; omega, by simp only; omega, by simp only; omega, by simp only; omega, by simp only; omega, fun hg' hn' => ?_⟩ (by simp only; omega))
                simp only [Bool.and_eq_true] at hg' hn' ⊢
                have a := hgood hgd (by omega)
                have := G.reach T CN (n - 1).toNat from_ i (by omega) f0 (by omega) (by omega) (by omega) (hbP hg'.2)
                rw [show (n + 1 - 1).toNat = (n - 1).toNat + 1 by omega]
                omega
              · refine wp_i64 (by omega) ?_
                simp only [law28_CirculationFewest_k6]
                exact wp_i64 (by omega) (hc4 _ ⟨by simp only; omega, by simp only; omega, by simp only; omega, by simp only; omega, by simp only; omega, by simp only; omega, fun hg' => (by cases hg')⟩ (by simp only; omega))
            · simp only [law28_CirculationFewest_k6]
              exact wp_i64 (by omega) (hc4 _ ⟨by simp only; omega, by simp only; omega, n1, by simp only; omega, f0, by simp only; omega, hgood⟩ (by simp only; omega))
          · simp only [decide_eq_false_iff_not] at h4
            obtain rfl : i = ch.length := by omega
            simp only [law28_CirculationFewest_k5]
            refine wp_ite (fun hgd => ?_) (fun hgd => ?_)
            · obtain ⟨p, hp, b, hb, hbP⟩ := step ch.length (Nat.le_refl _) (Nat.le_refl _)
              refine wp_is hp (wp_is hb (wp_ite (fun hx => ?_) (fun _ => next3)))
              simp only [Bool.and_eq_true, decide_eq_true_eq] at hx
              obtain ⟨⟨_, hb1⟩, hn'⟩ := hx
              have a := hgood hgd (by omega)
              have h5 := G.reach T CN (n - 1).toNat from_ ch.length (by omega) f0 (by omega) (by omega) (by omega) (hbP hb1)
              have h6 := gb' n.toNat (by omega)
              rw [show (n - 1).toNat + 1 = n.toNat by omega] at h5
              omega
            · exact wp_ite (fun hx => by simp at hx) (fun _ => next3)
        · simp only [law28_CirculationFewest_k2]
          exact hc _ (by omega) (by omega)
    · simp only [law28_CirculationFewest_k1]
      exact wp_is awake28 (wp_some rfl)
  obtain ⟨b, h1, rfl⟩ := k
  exact h1
end Go.Proofs.Ytedocibniankjaa

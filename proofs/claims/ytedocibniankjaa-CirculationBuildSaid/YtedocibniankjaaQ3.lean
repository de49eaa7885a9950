/- Plain laws of chapter 27: solving. -/
import Derived.Test.YtedocibniankjaaQ2
namespace Go.Proofs.Ytedocibniankjaa
open Go.Dc

/-- The nodes of a way back to the source. -/
inductive On (pred : Int → Int) (src : Int) : Int → Int → Prop where
  | here {v : Int} : v ≠ src → On pred src v v
  | step {v w : Int} : v ≠ src → On pred src (pred v) w → On pred src v w

theorem On.rk {pred : Int → Int} {src : Int} {ok : Int → Prop} {rk : Int → Nat} (h : ∀ w, ok w → w ≠ src → ok (pred w) ∧ rk (pred w) < rk w) {v w : Int} (o : On pred src v w) : ok v → rk w ≤ rk v ∧ ok w ∧ w ≠ src := by
  induction o with
  | here hne => intro hv; exact ⟨Nat.le_refl _, hv, hne⟩
  | step hne _ ih =>
    intro hv
    obtain ⟨a, b⟩ := h _ hv hne
    obtain ⟨c, d⟩ := ih a
    exact ⟨by omega, d⟩
theorem On.src {pred : Int → Int} {src w : Int} (o : On pred src src w) : False := by
  cases o with
  | here h => exact h rfl
  | step h _ => exact h rfl
theorem On.cases' {pred : Int → Int} {src v w : Int} (o : On pred src v w) : w = v ∨ On pred src (pred v) w := by
  cases o with
  | here h => exact Or.inl rfl
  | step h o => exact Or.inr o

/-- What one augmentation does. -/
structure Augd (n : Int) (E : List Arc) (sup left exc price : List Int) (u am : Int) (left' exc' price' : List Int) : Prop where
  d : Dy n E sup left' exc' price'
  am1 : u ≤ am
  po : pos n exc' + am = pos n exc
  opt : ∀ h : Int, 0 ≤ h → h < 2 * (E.length : Int) → u ≤ gi left' h → 0 ≤ red E price' h
  gr : ∀ h : Int, 0 ≤ h → h < 2 * (E.length : Int) → gi left' h ≤ gi left h + am
  pb : ∀ w : Int, 0 ≤ w → w ≤ n → gi price w ≤ gi price' w ∧ gi price' w ≤ gi price w + 1207959552

structure SL (n : Int) (E : List Arc) (sup left exc price' : List Int) (u am src tgt : Int) (way : List Int) (ok : Int → Prop) (left1 exc1 : List Int) (v : Int) : Prop where
  okv : ok v
  d : Dy n E sup left1 exc1 price'
  need : ∀ w : Int, On (fun w => gi (toL E) (xr (gi way w))) src v w → am ≤ gi left1 (gi way w)
  opt : ∀ h : Int, 0 ≤ h → h < 2 * (E.length : Int) → u ≤ gi left1 h → 0 ≤ red E price' h
  gr : ∀ h : Int, 0 ≤ h → h < 2 * (E.length : Int) → gi left1 h ≤ gi left h + am
  gr2 : ∀ w : Int, On (fun w => gi (toL E) (xr (gi way w))) src v w → gi left1 (xr (gi way w)) ≤ gi left (xr (gi way w))
  ex : ∀ x : Int, 0 ≤ x → x ≤ n → gi exc1 x = gi exc x + (if x = tgt then am else 0) - (if x = v then am else 0)

theorem send_loop {n A : Int} {E : List Arc} {fr : List (List Int)} {sup left exc price : List Int} {u C : Int} (c : Cx n A E fr sup left exc price u C) {src : Int} (s0 : 0 ≤ src) (s1 : src ≤ n) {tgt : Int} {way price' : List Int}
    (P : Chp n E left exc price u src tgt way price') {am : Int} (a1 : u ≤ am) (a2 : am ≤ gi exc src) (a3 : am ≤ - gi exc tgt)
    {ok : Int → Prop} {rk : Int → Nat} (okt : ok tgt) (rkt : rk tgt ≤ 100) (path : ∀ w, ok w → w ≠ src → (0 ≤ w ∧ w ≤ n ∧ 0 ≤ gi way w ∧ gi way w < 2 * (E.length : Int) ∧ gi (toL E) (gi way w) = w ∧ u ≤ gi left (gi way w) ∧ red E price' (gi way w) = 0 ∧
      ok (gi (toL E) (xr (gi way w))) ∧ rk (gi (toL E) (xr (gi way w))) < rk w))
    (need : ∀ w : Int, On (fun w => gi (toL E) (xr (gi way w))) src tgt w → am ≤ gi left (gi way w)) :
    WP (iter (flow_residual_augment_b3 src (tgt, way, price') (Flow_residual.mk n A (toL E) left (costL E) fr exc price) am) FUEL (left, exc, tgt)) (fun y => y.1 = true ∧ Augd n E sup left exc price u am y.2.1 y.2.2.1 y.2.2.2) := by
  have n1 := c.s.n1
  have n2 := c.s.n2
  have u1 := c.u1
  have eb := c.eb
  have hb := c.s.lenb
  have tl := toL_len E
  have hpos := fun v (v0 : 0 ≤ v) (v1 : v ≤ n) => pos_bound (n := n) (exc := exc) c.d.tot (v := v) v0 v1
  have hsp := hpos src s0 s1
  refine wp_iter (fun (t : List Int × List Int × Int) => SL n E sup left exc price' u am src tgt way ok t.1 t.2.1 t.2.2) (fun t => rk t.2.2) _ ?_ FUEL _ ?_ (fuel_of (by simp only; omega))
  · rintro k ⟨left1, exc1, v⟩ L hc
    simp only at L hc
    simp only [flow_residual_augment_b3]
    refine wp_ite (fun h => ?_) (fun h => ?_)
    · simp only [decide_eq_true_eq] at h
      obtain ⟨v0, v1, b0, b1, b2, b3, b4, b5, b6⟩ := path v L.okv h
      have hx := xr_rng b0 b1
      have lw := P.lw
      have nd := L.need v (On.here h)
      refine wp_idxi (by omega) (wp_bind _ (send_wp c.s L.d.ll L.d.le b0 b1 (by omega) (by omega) ?_ ?_) ?_)
      · intro k k0 k1
        have a := L.d.l0 k k0 k1
        have kx := xr_rng k0 k1
        have b := L.d.l0 _ kx.1 kx.2
        have e := L.d.cap k k0 k1
        obtain ⟨_, _, _, _, _, _, f, _⟩ := c.s.rng (k / 2) (by omega) (by omega)
        omega
      · intro x x0 x1
        have := L.ex x x0 x1
        have := hpos x x0 x1
        split at * <;> split at * <;> omega
      · rintro ⟨left2, exc2⟩ S
        simp only at S
        refine wp_idxi (by omega) ?_
        rw [bx b0 (by omega)]
        refine wp_idxi (by omega) (hc _ ?_ b6)
        simp only
        have hrk : ∀ w, On (fun w => gi (toL E) (xr (gi way w))) src (gi (toL E) (xr (gi way v))) w → gi way w ≠ gi way v ∧ 0 ≤ gi way w ∧ gi way w < 2 * (E.length : Int) := by
          intro w o
          obtain ⟨r1, r2, r3⟩ := o.rk (ok := ok) (rk := rk) (fun w hw hne => by obtain ⟨_, _, _, _, _, _, _, p, q⟩ := path w hw hne; exact ⟨p, q⟩) b5
          obtain ⟨_, _, c0, c1, c2, _⟩ := path w r2 r3
          refine ⟨fun e => ?_, c0, c1⟩
          have : w = v := by rw [← c2, e, b2]
          subst this
          omega
        refine ⟨b5, L.d.sent c.s S b0 b1 (by omega) nd, ?_, ?_, ?_, ?_, ?_⟩
        · intro w o
          obtain ⟨q1, q2, q3⟩ := hrk w o
          have := L.need w (On.step h o)
          rw [S.g1 _ q2, if_neg q1]
          split <;> omega
        · intro k k0 k1 hu
          rw [S.g1 _ k0] at hu
          by_cases e1 : k = gi way v
          · subst e1; omega
          · rw [if_neg e1] at hu
            by_cases e2 : k = xr (gi way v)
            · subst e2; rw [red_xr E _ b0 b1]; omega
            · rw [if_neg e2] at hu; exact L.opt k k0 k1 hu
        · intro k k0 k1
          have g := L.gr k k0 k1
          rw [S.g1 _ k0]
          by_cases e1 : k = gi way v
          · rw [if_pos e1]; omega
          · rw [if_neg e1]
            by_cases e2 : k = xr (gi way v)
            · rw [if_pos e2]
              have := L.gr2 v (On.here h)
              subst e2; omega
            · rw [if_neg e2]; exact g
        · intro w o
          obtain ⟨q1, q2, q3⟩ := hrk w o
          have g := L.gr2 w (On.step h o)
          have wx := xr_rng q2 q3
          rw [S.g1 _ wx.1]
          by_cases e1 : xr (gi way w) = gi way v
          · rw [if_pos e1]; omega
          · rw [if_neg e1, if_neg (fun e => q1 (xr_inj e))]; exact g
        · intro x x0 x1
          have e := L.ex x x0 x1
          rw [S.g2 x x0, b2, e]
          omega
    · simp only [decide_eq_false_iff_not, Decidable.not_not] at h
      subst h
      simp only [flow_residual_augment_k4]
      refine wp_some ⟨rfl, L.d, a1, ?_, L.opt, L.gr, P.pb⟩
      have hne : v ≠ tgt := fun e => by subst e; omega
      unfold pos
      have e : ∀ x : Int, 0 ≤ x → x < (n + 1).toNat → max (gi exc1 x) 0 = max (gi exc x) 0 - (if x = v then am else 0) := by
        intro x x0 x1
        rw [L.ex x x0 (by omega)]
        by_cases c1 : x = tgt
        · subst c1; rw [if_pos rfl, if_neg (Ne.symm hne)]; omega
        · rw [if_neg c1]
          by_cases c2 : x = v
          · subst c2; rw [if_pos rfl]; omega
          · rw [if_neg c2]; omega
      simp only
      rw [sumTo_congr e, sumTo_sub, sumTo_ind v (fun _ => am) _ s0 (by omega)]
      omega
  · refine ⟨okt, ?_, need, P.opt, fun h h0 h1 => by simp only; omega, fun _ _ => Int.le_refl _, fun x _ _ => by simp only; omega⟩
    exact ⟨c.d.ll, c.d.le, P.lp, c.d.l0, c.d.cap, c.d.con, c.d.tot⟩

theorem augment_wp {n A : Int} {E : List Arc} {fr : List (List Int)} {sup left exc price : List Int} {u C : Int} (c : Cx n A E fr sup left exc price u C) (hf : ∀ v : Int, 0 ≤ v → v ≤ n → (gll fr v).length ≤ 1000000000) :
    WP (flow_residual_augment_m (Flow_residual.mk n A (toL E) left (costL E) fr exc price) u) (fun y =>
      (y = (false, left, exc, price) ∧ ((∀ v : Int, 0 ≤ v → v ≤ n → gi exc v < u) ∨ (∀ v : Int, 0 ≤ v → v ≤ n → -u < gi exc v))) ∨
      (y.1 = true ∧ ∃ am, Augd n E sup left exc price u am y.2.1 y.2.2.1 y.2.2.2)) := by
  have n1 := c.s.n1
  have n2 := c.s.n2
  have u1 := c.u1
  have u2 := c.u2
  have le := c.d.le
  have hb := c.s.lenb
  have tl := toL_len E
  have eb := c.eb
  have hpos := fun v (v0 : 0 ≤ v) (v1 : v ≤ n) => pos_bound (n := n) (exc := exc) c.d.tot (v := v) v0 v1
  unfold flow_residual_augment_m
  refine wp_iter (fun (t : Int × Bool × Nat) => (t.2.2 : Int) ≤ n + 1 ∧ ((t.1 = -1 ∧ ∀ v : Int, 0 ≤ v → v < t.2.2 → gi exc v < u) ∨ (0 ≤ t.1 ∧ t.1 < t.2.2 ∧ u ≤ gi exc t.1)) ∧
    (t.2.1 = true → ∃ w : Int, 0 ≤ w ∧ w ≤ n ∧ gi exc w ≤ -u) ∧ (t.2.1 = false → ∀ v : Int, 0 ≤ v → v < t.2.2 → -u < gi exc v)) (fun t => 100 - t.2.2) _ ?_ FUEL _ ?_ (fuel_of (by simp only; omega))
  · rintro k ⟨src, lack, t⟩ ⟨ht, hs, hl1, hl2⟩ hc
    simp only at ht hs hl1 hl2 hc
    simp only [flow_residual_augment_b1]
    refine wp_ite (fun h => ?_) (fun h => ?_)
    · simp only [decide_eq_true_eq] at h
      refine wp_idxi (by omega) ?_
      have go : ∀ src' : Int, ((src' = -1 ∧ ∀ v : Int, 0 ≤ v → v < ((t + 1 : Nat) : Int) → gi exc v < u) ∨ (0 ≤ src' ∧ src' < ((t + 1 : Nat) : Int) ∧ u ≤ gi exc src')) →
          WP (flow_residual_augment_k2 lack u k (gi exc t) t src') (fun y =>
            (y = (false, left, exc, price) ∧ ((∀ v : Int, 0 ≤ v → v ≤ n → gi exc v < u) ∨ (∀ v : Int, 0 ≤ v → v ≤ n → -u < gi exc v))) ∨
            (y.1 = true ∧ ∃ am, Augd n E sup left exc price u am y.2.1 y.2.2.1 y.2.2.2)) := by
        intro src' hs'
        simp only [flow_residual_augment_k2]
        refine wp_chk (by simp [i64b]; omega) (hc _ ⟨by simp only; omega, hs', ?_, ?_⟩ (by simp only; omega))
        · simp only [Bool.or_eq_true, decide_eq_true_eq]
          rintro (e | e)
          · exact hl1 e
          · exact ⟨t, by omega, by omega, e⟩
        · simp only [Bool.or_eq_false_iff, decide_eq_false_iff_not]
          rintro ⟨e1, e2⟩ v v0 v1
          by_cases e : v = t
          · subst e; omega
          · exact hl2 e1 v v0 (by omega)
      refine wp_ite (fun hi => ?_) (fun hi => ?_)
      · simp only [Bool.and_eq_true, decide_eq_true_eq] at hi
        exact go _ (Or.inr ⟨by omega, by omega, hi.1⟩)
      · refine go _ ?_
        rcases hs with ⟨e, hv⟩ | ⟨a, b, d⟩
        · left
          refine ⟨e, fun v v0 v1 => ?_⟩
          by_cases e' : v = t
          · subst e'
            simp only [Bool.and_eq_false_iff, decide_eq_false_iff_not] at hi
            omega
          · exact hv v v0 (by omega)
        · right; exact ⟨a, by omega, d⟩
    · simp only [decide_eq_false_iff_not] at h
      simp only [flow_residual_augment_k1]
      refine wp_ite (fun hi => ?_) (fun hi => ?_)
      · refine wp_some (Or.inl ⟨rfl, ?_⟩)
        simp only [Bool.or_eq_true, decide_eq_true_eq, Bool.not_eq_true'] at hi
        rcases hi with e | e
        · rcases hs with ⟨_, hv⟩ | ⟨a, _⟩
          · exact Or.inl fun v v0 v1 => hv v v0 (by omega)
          · omega
        · exact Or.inr fun v v0 v1 => hl2 e v v0 (by omega)
      · simp only [Bool.or_eq_false_iff, decide_eq_false_iff_not, Bool.not_eq_false'] at hi
        obtain ⟨w0, w00, w01, hw0⟩ := hl1 hi.2
        obtain ⟨s0, s1, hsu⟩ : 0 ≤ src ∧ src ≤ n ∧ u ≤ gi exc src := by
          rcases hs with ⟨e, _⟩ | ⟨a, b, d⟩
          · omega
          · exact ⟨a, by omega, d⟩
        refine wp_bind _ (cheapest_wp c s0 s1 w00 w01 hw0 hf) ?_
        rintro ⟨tgt, way, price'⟩ P
        simp only at P
        have v0 := P.v0
        have v1 := P.v1
        have lk := P.lack
        have lw := P.lw
        have ht' := hpos tgt v0 v1
        have hs' := hpos src s0 s1
        obtain ⟨ok, rk, okt, rkt, path⟩ := P.path
        simp only []
        refine wp_idxi (by omega) (wp_idxi (by omega) (wp_i64 (by omega) ?_))
        simp only [ite_min]
        refine wp_iter (fun (t : Int × Int) => u ≤ t.1 ∧ t.1 ≤ gi exc src ∧ t.1 ≤ - gi exc tgt ∧ ok t.2 ∧ ∀ w : Int, On (fun w => gi (toL E) (xr (gi way w))) src tgt w → On (fun w => gi (toL E) (xr (gi way w))) src t.2 w ∨ t.1 ≤ gi left (gi way w))
          (fun t => rk t.2) _ ?_ FUEL _ ?_ (fuel_of (by simp only; omega))
        · rintro k2 ⟨am, v⟩ ⟨a1, a2, a3, okv, hon⟩ hc2
          simp only at a1 a2 a3 okv hon hc2
          simp only [flow_residual_augment_b2]
          refine wp_ite (fun hv => ?_) (fun hv => ?_)
          · simp only [decide_eq_true_eq] at hv
            obtain ⟨b00, b01, b0, b1, b2, b3, b4, b5, b6⟩ := path v okv hv
            have ll := c.d.ll
            have hx := xr_rng b0 b1
            refine wp_idxi (by omega) (wp_idxi (by omega) (wp_idxi (by omega) ?_))
            rw [bx b0 (by omega), ite_min]
            refine wp_idxi (by omega) (hc2 _ ⟨by simp only; omega, by simp only; omega, by simp only; omega, b5, ?_⟩ b6)
            intro w o
            simp only
            rcases hon w o with e | e
            · rcases e.cases' with e | e
              · subst e; right; omega
              · exact Or.inl e
            · right; omega
          · simp only [decide_eq_false_iff_not, Decidable.not_not] at hv
            subst hv
            simp only [flow_residual_augment_k3]
            refine wp_imp (send_loop c s0 s1 P a1 a2 a3 okt rkt path (fun w o => ?_)) (fun y hy => Or.inr ⟨hy.1, am, hy.2⟩)
            rcases hon w o with e | e
            · exact absurd e On.src
            · exact e
        · exact ⟨by simp only; omega, by simp only; omega, by simp only; omega, okt, fun w o => Or.inl o⟩
  · exact ⟨by simp only; omega, Or.inl ⟨rfl, fun v _ v1 => by simp only at v1; omega⟩, fun h => (by cases h), fun _ v _ v1 => by simp only at v1; omega⟩

theorem pos_le {n p : Int} {exc : List Int} (n0 : 0 ≤ n) (n1 : n ≤ 96) (p0 : 0 ≤ p) (ht : sumTo (gi exc) (n + 1).toNat = 0) (h : (∀ v : Int, 0 ≤ v → v ≤ n → gi exc v < p) ∨ (∀ v : Int, 0 ≤ v → v ≤ n → -p < gi exc v)) : pos n exc ≤ 97 * p := by
  have e : ((n + 1).toNat : Int) * p ≤ 97 * p := Int.mul_le_mul_of_nonneg_right (by omega) p0
  unfold pos
  rcases h with h | h
  · have := sumTo_le (f := fun v => max (gi exc v) 0) (g := fun _ => p) (n := (n + 1).toNat) (fun i i0 i1 => by have := h i i0 (by omega); omega)
    rw [sumTo_const] at this
    omega
  · have := sumTo_le (f := fun v => max (gi exc v) 0 - gi exc v) (g := fun _ => p) (n := (n + 1).toNat) (fun i i0 i1 => by have := h i i0 (by omega); omega)
    rw [sumTo_const, sumTo_sub] at this
    omega

/-- A half-arc that leads along an artificial arc. -/
def fwd (n A : Int) (h : Int) : Prop := ∃ v : Int, 0 ≤ v ∧ v < n ∧ (h = 2 * (A + 2 * v) ∨ h = 2 * (A + 2 * v + 1))

theorem St.fwd {n A : Int} {E : List Arc} {fr : List (List Int)} (s : St n A E fr) {h : Int} (f : fwd n A h) : 0 ≤ h ∧ h < 2 * (E.length : Int) ∧ (ar E (h / 2)).Cap = 1099511627776 := by
  obtain ⟨v, v0, v1, e⟩ := f
  have := s.len; have := s.A0
  rcases e with rfl | rfl
  · refine ⟨by omega, by omega, ?_⟩
    rw [show 2 * (A + 2 * v) / 2 = A + 2 * v by omega, s.art1 v v0 v1]
  · refine ⟨by omega, by omega, ?_⟩
    rw [show 2 * (A + 2 * v + 1) / 2 = A + 2 * v + 1 by omega, s.art2 v v0 v1]

/-- Between two rounds. -/
structure PI (n A : Int) (E : List Arc) (sup left exc price : List Int) (pu C : Int) : Prop where
  d : Dy n E sup left exc price
  p1 : 1 ≤ pu
  p2 : pu ≤ 4194304
  opt : ∀ h : Int, 0 ≤ h → h < 2 * (E.length : Int) → pu ≤ gi left h → 0 ≤ red E price h
  fin : (∀ v : Int, 0 ≤ v → v ≤ n → gi exc v < pu) ∨ (∀ v : Int, 0 ≤ v → v ≤ n → -pu < gi exc v)
  art : ∀ h : Int, fwd n A h → gi left (xr h) + pos n exc ≤ 134217728 + 4864 * (4194304 - pu)
  pb : ∀ v : Int, 0 ≤ v → v ≤ n → 0 ≤ gi price v ∧ gi price v ≤ C

/-- While half-arcs with a negative reduced cost are filled. -/
structure FL (n A : Int) (E : List Arc) (sup left exc price : List Int) (u : Int) (t : Nat) : Prop where
  tl : (t : Int) ≤ 2 * (E.length : Int)
  d : Dy n E sup left exc price
  o1 : ∀ h : Int, 0 ≤ h → h < t → u ≤ gi left h → 0 ≤ red E price h
  o2 : ∀ h : Int, 0 ≤ h → h < 2 * (E.length : Int) → 2 * u ≤ gi left h → 0 ≤ red E price h
  po : pos n exc ≤ 194 * u + 2 * u * t
  art : ∀ h : Int, fwd n A h → gi left (xr h) + pos n exc ≤ 134217728 + 4864 * (4194304 - 2 * u) + 2 * u * t

theorem fill_wp {n A : Int} {E : List Arc} {fr : List (List Int)} (s : St n A E fr) {sup left exc price : List Int} {u C : Int} (u1 : 1 ≤ u) (u2 : u ≤ 2097152) (I : PI n A E sup left exc price (2 * u) C) (C1 : C ≤ 1000000000000000000)
    {x y : Int} {left0 exc0 price0 : List Int} {cont1 : (List Int × List Int × List Int × Int) → Option (List Int × List Int × List Int)} {Q : List Int × List Int × List Int → Prop}
    (hk : ∀ left1 exc1, Cx n A E fr sup left1 exc1 price u C → pos n exc1 ≤ 5058 * u → (∀ h : Int, fwd n A h → gi left1 (xr h) + pos n exc1 ≤ 134217728 + 4864 * (4194304 - u)) →
      WP (flow_residual_solve_k2 (Flow_residual.mk x y (toL E) left0 (costL E) fr exc0 price0) u cont1 left1 exc1 price ()) Q) :
    WP (iter (flow_residual_solve_b2 (Flow_residual.mk x y (toL E) left0 (costL E) fr exc0 price0) u price cont1) FUEL (left, exc, 0)) Q := by
  have n1 := s.n1
  have n2 := s.n2
  have A1 := s.A1
  have hb := s.lenb
  have tl := toL_len E
  refine wp_iter (fun (t : List Int × List Int × Nat) => FL n A E sup t.1 t.2.1 price u t.2.2) (fun t => 10000 - t.2.2) Q ?_ FUEL _ ?_ (fuel_of (by simp only; omega))
  · rintro k ⟨l, e, t⟩ F hc
    simp only at F hc
    simp only [flow_residual_solve_b2]
    have tl' := F.tl
    have len := s.len
    have hut : 2 * u * t ≤ 2 * u * 2432 := Int.mul_le_mul_of_nonneg_left (by omega) (by omega)
    have hut1 : 2 * u * ((t + 1 : Nat) : Int) = 2 * u * t + 2 * u := by rw [Int.natCast_add, Int.mul_add]; simp
    have po := F.po
    have pn := pos_nonneg (n := n) (exc := e)
    refine wp_ite (fun h => ?_) (fun h => ?_)
    · simp only [decide_eq_true_eq] at h
      have t0 : (0 : Int) ≤ t := by omega
      have t1 : (t : Int) < 2 * (E.length : Int) := by omega
      have ll := F.d.ll
      have hx := xr_rng t0 t1
      refine wp_idxi (by omega) ?_
      rw [red_wp s F.d.lp t0 t1 (fun a a0 a1 => by have := I.pb a a0 a1; omega)]
      have go : (u ≤ gi l t → 0 ≤ red E price t) → WP (flow_residual_solve_k3 k t (l, e)) Q := fun ho => hc _ ⟨by simp only; omega, F.d, fun h h0 h1 hu => by
        by_cases eq : h = t
        · subst eq; exact ho hu
        · exact F.o1 h h0 (by simp only at h1; omega) hu, F.o2, by simp only; omega, fun h hh => by have := F.art h hh; simp only; omega⟩ (by simp only; omega)
      refine wp_whn (fun hu => ?_) (fun hu => ?_)
      · simp only [Option.bind_some, hu, Bool.true_and]
        simp only [decide_eq_true_eq] at hu
        refine wp_ite (fun hr => ?_) (fun hr => ?_)
        · simp only [decide_eq_true_eq] at hr
          have hlt : gi l t < 2 * u := by
            refine Classical.byContradiction fun hge => ?_
            have := F.o2 t t0 t1 (by omega)
            omega
          have hnf : ¬ fwd n A t := by
            intro hf
            obtain ⟨_, _, hcap⟩ := s.fwd hf
            have a := F.art t hf
            have b := F.d.cap t t0 t1
            omega
          have ecap := fun k (k0 : 0 ≤ k) (k1 : k < 2 * (E.length : Int)) => (by
            have a := F.d.l0 k k0 k1
            have kx := xr_rng k0 k1
            have b := F.d.l0 _ kx.1 kx.2
            have e := F.d.cap k k0 k1
            obtain ⟨_, _, _, _, _, _, f, _⟩ := s.rng (k / 2) (by omega) (by omega)
            omega : 0 ≤ gi l k ∧ gi l k ≤ 1000000000000000)
          refine wp_idxi (by omega) (wp_bind _ (send_wp s F.d.ll F.d.le t0 t1 (F.d.l0 _ t0 t1) (ecap t t0 t1).2 ecap ?_) ?_)
          · intro v v0 v1
            have := pos_bound F.d.tot v0 v1
            omega
          · rintro ⟨l2, e2⟩ S
            simp only at S
            have sp := sent_pos s S t0 t1 (F.d.l0 _ t0 t1)
            simp only [flow_residual_solve_k3]
            refine hc _ ⟨by simp only; omega, F.d.sent s S t0 t1 (F.d.l0 _ t0 t1) (Int.le_refl _), ?_, ?_, ?_, ?_⟩ (by simp only; omega)
            · intro h h0 h1 hu'
              simp only at hu' h1
              rw [S.g1 h h0] at hu'
              by_cases e1 : h = t
              · rw [if_pos e1] at hu'; subst e1; omega
              · rw [if_neg e1] at hu'
                by_cases e2 : h = xr t
                · rw [e2, red_xr E _ t0 t1]; omega
                · rw [if_neg e2] at hu'; exact F.o1 h h0 (by omega) hu'
            · intro h h0 h1 hu'
              simp only at hu'
              rw [S.g1 h h0] at hu'
              by_cases e1 : h = t
              · rw [if_pos e1] at hu'; subst e1; omega
              · rw [if_neg e1] at hu'
                by_cases e2 : h = xr t
                · rw [e2, red_xr E _ t0 t1]; omega
                · rw [if_neg e2] at hu'; exact F.o2 h h0 h1 hu'
            · simp only; omega
            · intro h hf
              have a := F.art h hf
              obtain ⟨h0, h1, _⟩ := s.fwd hf
              have hx' := xr_rng h0 h1
              simp only
              rw [S.g1 _ hx'.1]
              have l0 := F.d.l0 t t0 t1
              by_cases e1 : xr h = t
              · rw [if_pos e1, e1] ; rw [e1] at a; omega
              · rw [if_neg e1, if_neg (fun e => hnf (by rw [← xr_inj e]; exact hf))]; omega
        · simp only [decide_eq_false_iff_not] at hr
          exact go (fun _ => by omega)
      · simp only [hu, Bool.false_and]
        simp only [decide_eq_false_iff_not] at hu
        exact go (fun h' => absurd h' hu)
    · simp only [decide_eq_false_iff_not] at h
      have hfw : ∀ h, fwd n A h → u ≤ gi l h := by
        intro h hf
        obtain ⟨h0, h1, hcap⟩ := s.fwd hf
        have a := F.art h hf
        have b := F.d.cap h h0 h1
        omega
      refine hk l e ⟨s, F.d, u1, u2, fun h h0 h1 hu => F.o1 h h0 (by omega) hu, fun v v0 v1 => hfw _ ⟨v, v0, v1, Or.inl rfl⟩, fun v v0 v1 => hfw _ ⟨v, v0, v1, Or.inr rfl⟩, I.pb, C1, by omega⟩ (by omega) (fun h hf => ?_)
      have a := F.art h hf
      omega
  · have := pos_le (p := 2 * u) (by omega) n2 (by omega) I.d.tot I.fin
    refine ⟨by simp only; omega, I.d, fun h h0 h1 => (by simp only at h1; omega), I.opt, by simp only; omega, fun h hf => by have := I.art h hf; simp only; omega⟩

theorem aug_loop {n A : Int} {E : List Arc} {fr : List (List Int)} {sup : List Int} {u C : Int} (hf : ∀ v : Int, 0 ≤ v → v ≤ n → (gll fr v).length ≤ 1000000000) {left exc price left0 exc0 price0 : List Int} (c : Cx n A E fr sup left exc price u C) (C1 : C ≤ 500000000000000000)
    (hp : pos n exc ≤ 5058 * u) (art : ∀ h : Int, fwd n A h → gi left (xr h) + pos n exc ≤ 134217728 + 4864 * (4194304 - u)) {cont1 : (List Int × List Int × List Int × Int) → Option (List Int × List Int × List Int)} {Q : List Int × List Int × List Int → Prop}
    (hk : ∀ left1 exc1 price1, PI n A E sup left1 exc1 price1 u (C + 6109859414016) → Cx n A E fr sup left1 exc1 price1 u (C + 6109859414016) → WP (cont1 (left1, exc1, price1, u / 2)) Q) :
    WP (flow_residual_solve_k2 (Flow_residual.mk n A (toL E) left0 (costL E) fr exc0 price0) u cont1 left exc price ()) Q := by
  have u1 := c.u1
  have u2 := c.u2
  simp only [flow_residual_solve_k2]
  refine wp_iter (fun (t : List Int × List Int × List Int) => ∃ k : Nat, Cx n A E fr sup t.1 t.2.1 t.2.2 u (C + k * 1207959552) ∧ pos n t.2.1 + k * u ≤ 5058 * u ∧ ∀ h : Int, fwd n A h → gi t.1 (xr h) + pos n t.2.1 ≤ 134217728 + 4864 * (4194304 - u))
    (fun t => (pos n t.2.1).toNat) Q ?_ FUEL _ ⟨0, by simpa using c, by simp only; omega, art⟩ (fuel_of (by have := c.eb; simp only; omega))
  rintro co ⟨l, e, p⟩ ⟨k, c', hpo, ha⟩ hc
  simp only at c' hpo ha hc
  simp only [flow_residual_solve_b3]
  have pn := pos_nonneg (n := n) (exc := e)
  have hk' : (k : Int) ≤ 5058 := by
    refine Classical.byContradiction fun hgt => ?_
    have : 5059 * u ≤ (k : Int) * u := Int.mul_le_mul_of_nonneg_right (by omega) (by omega)
    omega
  have hku : ((k + 1 : Nat) : Int) * u = k * u + u := by rw [Int.natCast_add, Int.add_mul]; simp
  refine wp_bind _ (augment_wp c' hf) ?_
  rintro ⟨b, l2, e2, p2⟩ hy
  simp only at hy
  rcases hy with ⟨hy, hfin⟩ | ⟨hb, am, G⟩
  · obtain ⟨rfl, rfl, rfl, rfl⟩ : b = false ∧ l2 = l ∧ e2 = e ∧ p2 = p := by simpa using hy
    simp only [flow_residual_solve_k1, Bool.false_eq_true, if_false]
    have hd : u.tdiv 2 = u / 2 := Int.tdiv_eq_ediv_of_nonneg (by omega)
    rw [hd]
    have cb : ∀ v : Int, 0 ≤ v → v ≤ n → 0 ≤ gi p2 v ∧ gi p2 v ≤ C + 6109859414016 := fun v v0 v1 => by
      have := c'.pb v v0 v1
      omega
    refine wp_chk (by simp [i64b]; omega) (hk _ _ _ ⟨c'.d, u1, by omega, c'.opt, hfin, ha, cb⟩ ?_)
    exact ⟨c'.s, c'.d, c'.u1, c'.u2, c'.opt, c'.hub1, c'.hub2, cb, by omega, c'.eb⟩
  · subst hb
    simp only [if_true]
    have am1 := G.am1
    have po := G.po
    have hart : ∀ h : Int, fwd n A h → gi l2 (xr h) + pos n e2 ≤ 134217728 + 4864 * (4194304 - u) := by
      intro h hh
      have := ha h hh
      obtain ⟨h0, h1, _⟩ := c.s.fwd hh
      have hx := xr_rng h0 h1
      have := G.gr _ hx.1 hx.2
      omega
    have pn2 := pos_nonneg (n := n) (exc := e2)
    have hfw : ∀ h, fwd n A h → u ≤ gi l2 h := by
      intro h hh
      obtain ⟨h0, h1, hcap⟩ := c.s.fwd hh
      have a := hart h hh
      have b := G.d.cap h h0 h1
      omega
    have hkk : ((k + 1 : Nat) : Int) * 1207959552 = k * 1207959552 + 1207959552 := by omega
    refine hc _ ⟨k + 1, ⟨c.s, G.d, u1, u2, G.opt, fun v v0 v1 => hfw _ ⟨v, v0, v1, Or.inl rfl⟩, fun v v0 v1 => hfw _ ⟨v, v0, v1, Or.inr rfl⟩, ?_, by omega, by simp only; have := c'.eb; omega⟩, by simp only; omega, hart⟩ (by simp only; omega)
    intro v v0 v1
    have a := c'.pb v v0 v1
    have b := G.pb v v0 v1
    simp only
    omega

theorem all_zero {n : Int} {exc : List Int} (ht : sumTo (gi exc) (n + 1).toNat = 0) (h : (∀ v : Int, 0 ≤ v → v ≤ n → gi exc v < 1) ∨ (∀ v : Int, 0 ≤ v → v ≤ n → -1 < gi exc v)) : ∀ v : Int, 0 ≤ v → v ≤ n → gi exc v = 0 := by
  intro v v0 v1
  rcases h with h | h
  · have := sumTo_ge (f := fun v => - gi exc v) (n := (n + 1).toNat) (fun i i0 i1 => by have := h i i0 (by omega); omega) v v0 (by omega)
    rw [sumTo_neg] at this
    have := h v v0 v1
    omega
  · have := sumTo_ge (f := gi exc) (n := (n + 1).toNat) (fun i i0 i1 => by have := h i i0 (by omega); omega) v v0 (by omega)
    have := h v v0 v1
    omega

theorem solve_wp {n A : Int} {E : List Arc} {fr : List (List Int)} (s : St n A E fr) (hf : ∀ v : Int, 0 ≤ v → v ≤ n → (gll fr v).length ≤ 1000000000) {sup left exc price : List Int} (I : PI n A E sup left exc price 4194304 0) :
    WP (flow_residual_solve_m (Flow_residual.mk n A (toL E) left (costL E) fr exc price)) (fun y => ∃ C, Cx n A E fr sup y.1 y.2.1 y.2.2 1 C ∧ ∀ v : Int, 0 ≤ v → v ≤ n → gi y.2.1 v = 0) := by
  unfold flow_residual_solve_m
  refine wp_iter (fun (t : List Int × List Int × List Int × Int) => ∃ j : Nat, j ≤ 22 ∧ t.2.2.2 = ((2 ^ (22 - j) : Nat) : Int) / 2 ∧ PI n A E sup t.1 t.2.1 t.2.2.1 ((2 ^ (22 - j) : Nat) : Int) (j * 6109859414016) ∧ (j = 22 → Cx n A E fr sup t.1 t.2.1 t.2.2.1 1 (j * 6109859414016)))
    (fun t => t.2.2.2.toNat) _ ?_ FUEL _ ⟨0, by omega, rfl, by simpa using I, by intro h; omega⟩ (fuel_of (by simp only; omega))
  rintro co ⟨l, e, p, u⟩ ⟨j, hj, hu, I', hC⟩ hc
  simp only at hu I' hC hc
  simp only [flow_residual_solve_b1]
  refine wp_ite (fun h => ?_) (fun h => ?_)
  · simp only [decide_eq_true_eq] at h
    have hj' : j < 22 := by
      refine Classical.byContradiction fun hge => ?_
      obtain rfl : j = 22 := by omega
      simp at hu
      omega
    have e1 : (2 ^ (22 - j) : Nat) = 2 * 2 ^ (22 - (j + 1)) := by
      rw [show 22 - j = (22 - (j + 1)) + 1 by omega, Nat.pow_succ]; omega
    have hu' : u = ((2 ^ (22 - (j + 1)) : Nat) : Int) := by
      rw [hu, e1]; omega
    have h2u : ((2 ^ (22 - j) : Nat) : Int) = 2 * u := by rw [e1, hu']; omega
    rw [h2u] at I'
    have hu2 : u ≤ 2097152 := by have := I'.p2; omega
    have hcj : ((j + 1 : Nat) : Int) * 6109859414016 = j * 6109859414016 + 6109859414016 := by omega
    refine fill_wp s h hu2 I' (by omega) (fun l1 e1 c hp ha => ?_)
    refine aug_loop hf c (by omega) hp ha (fun l2 e2 p2 I2 c2 => ?_)
    refine hc _ ⟨j + 1, by omega, by simp only; rw [← hu'], by simp only; rw [← hu', hcj]; exact I2, ?_⟩ (by simp only; omega)
    intro hj22
    simp only
    obtain rfl : j = 21 := by omega
    obtain rfl : u = 1 := by simpa using hu'
    exact c2
  · simp only [decide_eq_false_iff_not] at h
    have hj' : j = 22 := by
      refine Classical.byContradiction fun hne => ?_
      have e1 : (2 ^ (22 - j) : Nat) = 2 * 2 ^ (22 - (j + 1)) := by
        rw [show 22 - j = (22 - (j + 1)) + 1 by omega, Nat.pow_succ]; omega
      have : 0 < 2 ^ (22 - (j + 1)) := Nat.pow_pos (by omega)
      rw [e1] at hu
      omega
    have c := hC hj'
    subst hj'
    refine wp_some ⟨_, c, ?_⟩
    exact all_zero c.d.tot I'.fin
end Go.Proofs.Ytedocibniankjaa

/- plan.Check in plain words: its lists one by one. -/
import Derived.Test.YtcalibhfgdncaaaSa1
set_option linter.all false
namespace Go.Proofs.Ytcalibhfgdncaaa
open Go.Dc
theorem Yx (xs : List av) (y : av) (h : xs.length ≤ 1000) : Jq xs y = some (xs.any fun t => decide (t.Name = y.Name)) := by
 unfold Jq Mc
 refine O1 xs _ (fun c i x hx hi => ?_) (fun c => ?_) (by omega)
 ·simp only [Jt]
  rw [if_pos (by simp; omega), hx]; rfl
 ·simp only [Jt]
  rw [if_neg (by simp)]; rfl
theorem Yw (xs : List Line) (y : Line) (h : xs.length ≤ 1000) : Jp xs y = some (xs.any fun t => decide (t.Name = y.Name)) := by
 unfold Jp Ma
 refine O1 xs _ (fun c i x hx hi => ?_) (fun c => ?_) (by omega)
 ·simp only [Js]
  rw [if_pos (by simp; omega), hx]; rfl
 ·simp only [Js]
  rw [if_neg (by simp)]; rfl
theorem Yy (xs : List Turn) (y : Turn) (h : xs.length ≤ 1000) : Jr xs y = some (xs.any fun u => decide (u.From = y.From) || decide (u.To = y.To)) := by
 unfold Jr Md
 refine O1 xs _ (fun c i x hx hi => ?_) (fun c => ?_) (by omega)
 ·simp only [Ju]
  rw [if_pos (by simp; omega), hx]; rfl
 ·simp only [Ju]
  rw [if_neg (by simp)]; rfl
theorem Yp (l : Layout) (p : Plan) (h : p.aT.length ≤ 1000) : EZ l p = errs (fun i => some (QZ p i)) (some 0) p.aT.length 0 := by
 unfold EZ
 refine yZ _ _ _ (fun c i hi => ?_) (fun c => ?_) (by omega)
 ·simp only [IQ]
  rw [if_pos (by simp; omega), uE hi, Option.bind_some, U5, Option.bind_some]
  unfold QZ
  by_cases h1 : qU (p.aT.getD i default).Name.ba = false
  ·rw [if_pos h1, if_pos (by rw [h1]; rfl)]; exact rE (by decide)
  ·rw [if_neg h1, if_neg (by simpa using h1), Q7 (by omega), Option.bind_some, Yx _ _ (by rw [List.length_take]; omega), Option.bind_some]
   by_cases h2 : ((p.aT.take i).any fun t => decide (t.Name = (p.aT.getD i default).Name)) = true
   ·rw [if_pos h2, if_pos h2]; exact rE (by decide)
   ·rw [if_neg h2, if_neg h2, Td, Option.bind_some]
    by_cases h3 : Jy (p.aT.getD i default) = false
    ·rw [if_pos h3, if_pos (by rw [h3]; rfl)]; exact rE (by decide)
    ·rw [if_neg h3, if_neg (by simpa using h3)]; rfl
 ·simp only [IQ]
  rw [if_neg (by simp)]; rfl
theorem Yn (l : Layout) (p : Plan) (h : p.Routes.length ≤ 1000) : EW l p = errs (fun i => some (LP l p i)) (some 0) p.Routes.length 0 := by
 unfold EW
 refine yZ _ _ _ (fun c i hi => ?_) (fun c => ?_) (by omega)
 ·simp only [IL]
  rw [if_pos (by simp; omega), uE hi, Option.bind_some, VI]; rfl
 ·simp only [IL]
  rw [if_neg (by simp)]; rfl
theorem Wh {p : Plan} {x : Line} {k : Nat} {r : aC} (h : vK p x k r = true) : 0 ≤ r.aI ∧ r.aI < (p.Routes.length : Int) := by
 unfold vK at h
 simp only [Bool.and_eq_true, decide_eq_true_eq] at h
 exact ⟨h.1.1.1.1.1, h.1.1.1.1.2⟩
theorem LM {l : Layout} {p : Plan} {x : Line} {k : Nat} (h : tO l p x k = 0) : 0 ≤ (lZ x k).aI ∧ (lZ x k).aI < (p.Routes.length : Int) := by
 unfold tO at h
 split at h
 ·cases h
 ·rename_i h1; exact Wh (by simpa using h1)
theorem adF {l : Layout} {p : Plan} (o : RvOk l p) (x : Line) (hs : 0 ≤ x.av ∧ x.av < (p.aT.length : Int)) (hx : x.ay.length ≤ 12) (k : Nat) (hk : k < x.ay.length)
  (Ox : ∀ j, j < k → tO l p x j = 0) (hb : vK p x k (lZ x k) = true) : wL p (lZ x k) x l k false = some (tO l p x k) := by
 obtain ⟨r0, r1⟩ := Wh hb
 unfold tO
 rw [if_neg (by simp [hb])]
 simp only [wL]
 rw [if_neg (by simp), (EC o r0 r1).1, Option.bind_some, xV hs.1 hs.2, Option.bind_some, YL, Option.bind_some]
 by_cases f0 : GD l (iC p (lZ x k)) (p.aT.getD x.av.toNat default) = 0
 ·rw [if_neg (by rw [f0]; simp), if_neg (fun h => h f0)]
  by_cases k0 : 0 < k
  ·have e1 : ((k : Int) - 1) = ((k - 1 : Nat) : Int) := by omega
   obtain ⟨q0, q1⟩ := LM (Ox (k - 1) (by omega))
   have g : decide (0 < (k : Int)) = true := by simp; omega
   rw [jK (by simp [bP]; omega), sI g, e1, uE (by omega), Option.bind_some, sI g, QX o r0 r1, Option.bind_some, sI g]
   rw [show x.ay.getD (k - 1) default = lZ x (k - 1) from rfl, Q0 o q0 q1, Option.bind_some, g, Bool.true_and]
   by_cases e : qC (iC p (lZ x k)) = o8 (iC p (lZ x (k - 1)))
   ·rw [if_neg (by simp [e]), if_neg (by simp [e])]
   ·rw [if_pos (by simpa using e), if_pos ⟨k0, e⟩]
  ·have g : decide (0 < (k : Int)) = false := by simp; omega
   rw [jK (by simp; omega), yB g, Option.bind_some, yB g, Option.bind_some, yB g, Option.bind_some, g, Bool.false_and, if_neg (by simp), if_neg (fun h => k0 h.1)]
 ·rw [if_pos (by simpa using f0), if_pos f0]
theorem Wi {l : Layout} {p : Plan} (o : RvOk l p) (x : Line) (hs : 0 ≤ x.av ∧ x.av < (p.aT.length : Int)) (hx : x.ay.length ≤ 12) (k : Nat) (hk : k < x.ay.length)
  (Ox : ∀ j, j < k → tO l p x j = 0) : EU l p x k = some (tO l p x k) := by
 have hgood := adF o x hs hx k hk Ox
 have hbad : vK p x k (lZ x k) = false → wL p (lZ x k) x l k true = some (tO l p x k) := by
  intro h; unfold tO; rw [if_pos h]; rfl
 unfold EU
 rw [uE hk, Option.bind_some, show x.ay.getD k default = lZ x k from rfl]
 generalize lZ x k = r at *
 by_cases a1 : r.aI < 0
 ·rw [if_pos (by simpa using a1), decide_eq_true a1]
  exact hbad (by unfold vK; rw [decide_eq_false (show ¬ 0 ≤ r.aI by omega)]; simp)
 rw [if_neg (by simpa using a1)]
 by_cases a2 : (p.Routes.length : Int) ≤ r.aI
 ·rw [if_pos (by simpa using a2), decide_eq_true a2]
  exact hbad (by unfold vK; rw [decide_eq_false (show ¬ r.aI < (p.Routes.length : Int) by omega)]; simp)
 rw [if_neg (by simpa using a2)]
 by_cases a3 : r.Extra < 0
 ·rw [if_pos (by simpa using a3), decide_eq_true a3]
  exact hbad (by unfold vK; rw [decide_eq_false (show ¬ 0 ≤ r.Extra by omega)]; simp)
 rw [if_neg (by simpa using a3)]
 by_cases a4 : p.bL ≤ r.Extra
 ·rw [if_pos (by simpa using a4), decide_eq_true a4]
  exact hbad (by unfold vK; rw [decide_eq_false (show ¬ r.Extra < p.bL by omega)]; simp)
 rw [if_neg (by simpa using a4), M6 o, Option.bind_some]
 cases a5 : uh p r.Min r.Max with
 | false =>
  rw [Bool.not_false, if_pos rfl]
  exact hbad (by unfold vK; rw [a5]; simp)
 | true =>
  rw [Bool.not_true, if_neg (by simp), jK (mF (by omega) (by omega))]
  have e : (decide ((k : Int) = (x.ay.length : Int) - 1)) = decide (k + 1 = x.ay.length) := by
   rw [Bool.eq_iff_iff]; simp only [decide_eq_true_eq]; omega
  rw [e]
  have hB : vK p x k r = !(decide (k + 1 = x.ay.length) && (decide (r.Min ≠ 0) || decide (r.Max ≠ 0))) := by
   unfold vK
   rw [decide_eq_true (show 0 ≤ r.aI by omega), decide_eq_true (show r.aI < (p.Routes.length : Int) by omega), decide_eq_true (show 0 ≤ r.Extra by omega), decide_eq_true (show r.Extra < p.bL by omega), a5]
   rfl
  cases hg : (decide (k + 1 = x.ay.length) && (decide (r.Min ≠ 0) || decide (r.Max ≠ 0))) with
  | true => rw [hg] at hB; exact hbad hB
  | false => rw [hg] at hB; exact hgood hB
theorem Xg (w : Int) : IW w = some (wB w) := rfl
theorem Yl {l : Layout} {p : Plan} (o : RvOk l p) : ET l p = errs (Av l p) (some 0) p.Lines.length 0 := by
 have hz := o.sz.li
 unfold ET
 refine yZ _ _ _ (fun c i hi => ?_) (fun c => ?_) (by omega)
 ·simp only [IK]
  rw [if_pos (by simp; omega), uE hi, Option.bind_some, show p.Lines.getD i default = dZ p i from rfl, U5, Option.bind_some]
  have hr : (dZ p i).ay.length ≤ 12 := o.sz.ri _ (Ab hi)
  unfold Av
  by_cases h1 : qU (dZ p i).Name.ba = false
  ·rw [if_pos h1, if_pos (by rw [h1]; rfl)]; exact rE (by decide)
  rw [if_neg h1, if_neg (by simpa using h1), Q7 (by omega), Option.bind_some, Yw _ _ (by rw [List.length_take]; omega), Option.bind_some]
  by_cases h2 : ((p.Lines.take i).any fun t => decide (t.Name = (dZ p i).Name)) = true
  ·rw [if_pos h2, if_pos h2]; exact rE (by decide)
  rw [if_neg h2, if_neg h2]
  have hk3 : Cx (dZ p i) l p c i true = some 4 := rfl
  by_cases a1 : (dZ p i).av < 0
  ·rw [if_pos (by simpa using a1), decide_eq_true a1, hk3, if_pos (by rw [decide_eq_false (show ¬ 0 ≤ (dZ p i).av by omega)]; simp)]; exact rE (by decide)
  rw [if_neg (by simpa using a1)]
  by_cases a2 : (p.aT.length : Int) ≤ (dZ p i).av
  ·rw [if_pos (by simpa using a2), decide_eq_true a2, hk3, if_pos (by rw [decide_eq_false (show ¬ (dZ p i).av < (p.aT.length : Int) by omega)]; simp)]; exact rE (by decide)
  rw [if_neg (by simpa using a2), Xg, Option.bind_some]
  rw [decide_eq_true (show 0 ≤ (dZ p i).av by omega), decide_eq_true (show (dZ p i).av < (p.aT.length : Int) by omega), Bool.true_and, Bool.true_and]
  cases hw : wB (dZ p i).Weight with
  | false => rw [Bool.not_false, hk3, if_pos rfl]; exact rE (by decide)
  | true =>
   rw [Bool.not_true, if_neg (by simp)]
   simp only [Cx]
   rw [if_neg (by simp)]
   by_cases h0 : (dZ p i).ay.length = 0
   ·rw [if_pos (by simp [h0]), if_pos h0]; exact rE (by decide)
   ·rw [if_neg (by simp; intro e; exact h0 (by rw [e]; rfl)), if_neg h0]
    rw [zY, yZ (B := ES (dZ p i) l p c i) (dZ p i).ay.length (fun k => EU l p (dZ p i) k) (c (i + 1)) (fun c' k hk => ?_) (fun c' => ?_) (by omega)]
    ·refine BJ _ _ (fun j _ hj hp => ?_) (fun _ => rfl)
     have : ∀ m, m ≤ j → (∀ j', j' < m → tO l p (dZ p i) j' = 0) := by
      intro m
      induction m with
      | zero => intro _ j' h; omega
      | succ m ih =>
       intro hm j' hj'
       have ih' := ih (by omega)
       by_cases e : j' = m
       ·subst e
        have h3 := Wi o (dZ p i) (by omega) hr j' (by omega) ih'
        have h4 := hp j' (by omega) (by omega)
        rw [h3] at h4
        exact Option.some.inj h4
       ·exact ih' j' (by omega)
     exact Wi o (dZ p i) (by omega) hr j (by omega) (this j (Nat.le_refl _))
    ·simp only [ES]
     rw [if_pos (by simp; omega)]
    ·simp only [ES]
     rw [if_neg (by simp)]; rfl
 ·simp only [IK]
  rw [if_neg (by simp)]; rfl
structure uX (l : Layout) (p : Plan) : Prop extends RvOk l p where
 ln : ∀ i, i < p.Lines.length → (0 ≤ (dZ p i).av ∧ (dZ p i).av < (p.aT.length : Int)) ∧ 0 < (dZ p i).ay.length ∧ ∀ k, k < (dZ p i).ay.length → tO l p (dZ p i) k = 0
theorem acC {l : Layout} {p : Plan} {i : Nat} (h : Av l p i = some 0) : (0 ≤ (dZ p i).av ∧ (dZ p i).av < (p.aT.length : Int)) ∧ 0 < (dZ p i).ay.length ∧ ∀ k, k < (dZ p i).ay.length → tO l p (dZ p i) k = 0 := by
 unfold Av at h
 split at h
 ·cases h
 split at h
 ·cases h
 split at h
 ·cases h
 split at h
 ·cases h
 rename_i _ _ h3 h4
 simp only [Bool.not_eq_false, Bool.and_eq_true, decide_eq_true_eq] at h3
 refine ⟨h3.1, by omega, fun k hk => ?_⟩
 exact Option.some.inj ((DJ _ _ h).1 k (by omega) (by omega))
theorem UR {l : Layout} {p : Plan} (o : RvOk l p) (h : ∀ j, 0 ≤ j → j < 0 + p.Lines.length → Av l p j = some 0) : uX l p :=
 { toRvOk := o, ln := fun i hi => acC (h i (by omega) (by omega)) }
theorem TU (p : Plan) (i k : Int) : Aw p i k = some (iZ p i k) := by
 unfold Aw Cy iZ
 simp only [Option.bind_some]
 rw [show (decide (0 ≤ i) && decide (i < (p.Lines.length : Int))) = mE p i from rfl]
 cases h : (mE p i && decide (0 ≤ k)) with
 | false => rw [yB rfl, Option.bind_some]; rfl
 | true =>
  have h1 : mE p i = true := by simp only [Bool.and_eq_true] at h; exact h.1
  unfold mE at h1
  simp only [Bool.and_eq_true, decide_eq_true_eq] at h1
  rw [sI rfl, xV h1.1 h1.2, Option.bind_some]; rfl
theorem ZU (p : Plan) (i : Int) : Cy p i = some (mE p i) := rfl
theorem He {p : Plan} {i : Int} (h : mE p i = true) : idx p.Lines i = some (dZ p i.toNat) ∧ i.toNat < p.Lines.length ∧ ((i.toNat : Nat) : Int) = i := by
 unfold mE at h
 simp only [Bool.and_eq_true, decide_eq_true_eq] at h
 exact ⟨xV h.1 h.2, by omega, by omega⟩
theorem NY {l : Layout} {p : Plan} (o : uX l p) {i k : Int} (h : iZ p i k = true) : idx p.Lines i = some (dZ p i.toNat) ∧ idx (dZ p i.toNat).ay k = some (jD p i k) ∧ 0 ≤ (jD p i k).aI ∧ (jD p i k).aI < (p.Routes.length : Int) := by
 unfold iZ at h
 simp only [Bool.and_eq_true, decide_eq_true_eq] at h
 obtain ⟨a, b, _⟩ := He h.1.1
 have := (o.ln _ b).2.2 k.toNat (by omega)
 exact ⟨a, xV h.1.2 h.2, LM this⟩
theorem ad1 {l : Layout} {r : aI} (o : xq l r) : idx l.Sections (qC r) = some (l.Sections.getD (qC r).toNat default) := by
 have := o.two; have := o.ov
 exact Wy o (Ab (by omega))
theorem ad2 {l : Layout} {r : aI} (o : xq l r) : idx l.Sections (o8 r) = some (l.Sections.getD (o8 r).toNat default) := by
 have := o.two; have := o.ov
 exact Wy o (Ab (by omega))
theorem Yj {l : Layout} {p : Plan} (o : uX l p) : EP l p = errs (fun i => some (M7 l p i)) (some 0) p.Changes.length 0 := by
 have hz := o.sz.ch
 unfold EP
 refine yZ _ _ _ (fun c i hi => ?_) (fun c => ?_) (by omega)
 ·simp only [II]
  rw [if_pos (by simp; omega), uE hi, Option.bind_some]
  unfold M7
  generalize p.Changes.getD i default = x
  unfold SX
  conv => lhs; simp only [TU, M6 o.toRvOk, Xg, Rc, Option.bind_some]
  have hc : (((((!iZ p x.kr x.nC) || (!(if (!(!iZ p x.kr x.nC)) = true then iZ p x.mq x.qh else default))) || decide (x.kr = x.mq)) ||
    (!(if (!(((!iZ p x.kr x.nC) || (!(if (!(!iZ p x.kr x.nC)) = true then iZ p x.mq x.qh else default))) || decide (x.kr = x.mq))) = true then uh p x.Min x.Max else default))) ||
    (!(if (!((((!iZ p x.kr x.nC) || (!(if (!(!iZ p x.kr x.nC)) = true then iZ p x.mq x.qh else default))) || decide (x.kr = x.mq)) ||
    (!(if (!(((!iZ p x.kr x.nC) || (!(if (!(!iZ p x.kr x.nC)) = true then iZ p x.mq x.qh else default))) || decide (x.kr = x.mq))) = true then uh p x.Min x.Max else default)))) = true then wB x.Weight else default))) = !Gp p x := by
   unfold Gp
   cases iZ p x.kr x.nC <;> cases iZ p x.mq x.qh <;> cases decide (x.kr = x.mq) <;> cases uh p x.Min x.Max <;> cases wB x.Weight <;> rfl
  rw [hc]
  cases hb : Gp p x with
  | false => rw [Bool.not_false, if_pos rfl, if_pos rfl]; exact rE (by decide)
  | true =>
   rw [Bool.not_true, if_neg (by simp), if_neg (by simp)]
   unfold Gp at hb
   simp only [Bool.and_eq_true] at hb
   obtain ⟨a1, a2, a3, a4⟩ := NY o hb.1.1.1.1
   obtain ⟨b1, b2, b3, b4⟩ := NY o hb.1.1.1.2
   rw [a1, Option.bind_some, a2, Option.bind_some, Q0 o.toRvOk a3 a4, Option.bind_some, ad2 (EC o.toRvOk a3 a4).2, Option.bind_some]
   rw [b1, Option.bind_some, b2, Option.bind_some, QX o.toRvOk b3 b4, Option.bind_some, ad1 (EC o.toRvOk b3 b4).2, Option.bind_some]
   rw [show (l.Sections.getD (o8 (iC p (jD p x.kr x.nC))).toNat default).og = Bd l (o8 (iC p (jD p x.kr x.nC))) from rfl,
    show (l.Sections.getD (qC (iC p (jD p x.mq x.qh))).toNat default).og = Bd l (qC (iC p (jD p x.mq x.qh))) from rfl]
   by_cases e : Bd l (o8 (iC p (jD p x.kr x.nC))) = -1 ∨ Bd l (o8 (iC p (jD p x.kr x.nC))) ≠ Bd l (qC (iC p (jD p x.mq x.qh)))
   ·rw [if_pos (by simpa using e), if_pos e]; exact rE (by decide)
   ·rw [if_neg (by simpa using e), if_neg e]; rfl
 ·simp only [II]
  rw [if_neg (by simp)]; rfl
theorem Yr {l : Layout} {p : Plan} (o : uX l p) : E8 l p = errs (fun i => some (Dj p i)) (some 0) p.Turns.length 0 := by
 have hz := o.sz.tu
 unfold E8
 refine yZ _ _ _ (fun c i hi => ?_) (fun c => ?_) (by omega)
 ·simp only [IV]
  rw [if_pos (by simp; omega), uE hi, Option.bind_some]
  unfold Dj
  generalize p.Turns.getD i default = x
  unfold Q9
  conv => lhs; simp only [ZU, M6 o.toRvOk, Rc, Option.bind_some]
  have hc : (((!mE p x.From) || (!(if (!(!mE p x.From)) = true then mE p x.To else default))) ||
    (!(if (!((!mE p x.From) || (!(if (!(!mE p x.From)) = true then mE p x.To else default)))) = true then uh p x.Min x.Max else default))) = !(mE p x.From && mE p x.To && uh p x.Min x.Max) := by
   cases mE p x.From <;> cases mE p x.To <;> cases uh p x.Min x.Max <;> rfl
  rw [hc]
  cases hb : (mE p x.From && mE p x.To && uh p x.Min x.Max) with
  | false => rw [Bool.not_false, if_pos rfl, if_pos rfl]; exact rE (by decide)
  | true =>
   rw [Bool.not_true, if_neg (by simp), if_neg (by simp), Q7 (by omega), Option.bind_some, Yy _ _ (by rw [List.length_take]; omega), Option.bind_some]
   by_cases h2 : ((p.Turns.take i).any fun u => decide (u.From = x.From) || decide (u.To = x.To)) = true
   ·rw [if_pos h2, if_pos h2]; exact rE (by decide)
   rw [if_neg h2, if_neg h2]
   simp only [Bool.and_eq_true] at hb
   obtain ⟨a1, a2, a3⟩ := He hb.1.1
   obtain ⟨b1, b2, b3⟩ := He hb.1.2
   obtain ⟨_, l1, l2⟩ := o.ln _ a2
   obtain ⟨_, m1, m2⟩ := o.ln _ b2
   have hr := o.sz.ri _ (Ab a2)
   rw [show p.Lines.getD x.From.toNat default = dZ p x.From.toNat from rfl] at hr
   rw [a1, Option.bind_some, b1, Option.bind_some]
   simp only [Lg]
   have e1 : ((dZ p x.From.toNat).ay.length : Int) - 1 = (((dZ p x.From.toNat).ay.length - 1 : Nat) : Int) := by omega
   have ra : jD p x.From ((dZ p x.From.toNat).ay.length - 1) = lZ (dZ p x.From.toNat) ((dZ p x.From.toNat).ay.length - 1) := by
    unfold jD; rw [e1]; rfl
   rw [ra, show jD p x.To 0 = lZ (dZ p x.To.toNat) 0 from rfl]
   obtain ⟨q0, q1⟩ := LM (l2 ((dZ p x.From.toNat).ay.length - 1) (by omega))
   obtain ⟨t0, t1⟩ := LM (m2 0 (by omega))
   rw [jK (mF (by omega) (by omega)), e1, uE (by omega), Option.bind_some, xV (i := 0) (by omega) (by omega), Option.bind_some]
   rw [show (dZ p x.From.toNat).ay.getD ((dZ p x.From.toNat).ay.length - 1) default = lZ (dZ p x.From.toNat) ((dZ p x.From.toNat).ay.length - 1) from rfl,
    show (dZ p x.To.toNat).ay.getD (0 : Int).toNat default = lZ (dZ p x.To.toNat) 0 from rfl]
   rw [Q0 o.toRvOk q0 q1, Option.bind_some, QX o.toRvOk t0 t1, Option.bind_some]
   by_cases e : o8 (iC p (lZ (dZ p x.From.toNat) ((dZ p x.From.toNat).ay.length - 1))) ≠ qC (iC p (lZ (dZ p x.To.toNat) 0)) ∨ (dZ p x.From.toNat).av ≠ (dZ p x.To.toNat).av
   ·rw [if_pos (by simpa using e), if_pos e]; exact rE (by decide)
   ·rw [if_neg (by simpa using e), if_neg e]; rfl
 ·simp only [IV]
  rw [if_neg (by simp)]; rfl
theorem Yq {l : Layout} {p : Plan} (o : uX l p) : E5 l p = errs (fun i => some (Q8 p i)) (some 0) p.aV.length 0 := by
 have hz := o.sz.sy
 unfold E5
 refine yZ _ _ _ (fun c i hi => ?_) (fun c => ?_) (by omega)
 ·simp only [IU]
  rw [if_pos (by simp; omega), uE hi, Option.bind_some]
  unfold Q8
  generalize p.aV.getD i default = x
  unfold Xb
  conv => lhs; simp only [TU, Rc, Option.bind_some]
  have hc : (((((!iZ p x.qc x.qd) || (!(if (!(!iZ p x.qc x.qd)) = true then iZ p x.qH x.qI else default))) || (decide (x.qc = x.qH) && decide (x.qd = x.qI))) || decide (x.Offset < 0)) || decide (p.bL ≤ x.Offset))
    = !(iZ p x.qc x.qd && iZ p x.qH x.qI && !(decide (x.qc = x.qH) && decide (x.qd = x.qI)) && decide (0 ≤ x.Offset) && decide (x.Offset < p.bL)) := by
   rw [show decide (x.Offset < 0) = !decide (0 ≤ x.Offset) by rw [← decide_not]; simp, show decide (p.bL ≤ x.Offset) = !decide (x.Offset < p.bL) by rw [← decide_not]; simp]
   cases iZ p x.qc x.qd <;> cases iZ p x.qH x.qI <;> cases decide (x.qc = x.qH) <;> cases decide (x.qd = x.qI) <;> cases decide (0 ≤ x.Offset) <;> cases decide (x.Offset < p.bL) <;> rfl
  rw [hc]
  cases (iZ p x.qc x.qd && iZ p x.qH x.qI && !(decide (x.qc = x.qH) && decide (x.qd = x.qI)) && decide (0 ≤ x.Offset) && decide (x.Offset < p.bL)) with
  | false => rw [Bool.not_false, if_pos rfl, if_pos rfl]; exact rE (by decide)
  | true => rw [Bool.not_true, if_neg (by simp), if_neg (by simp)]; rfl
 ·simp only [IU]
  rw [if_neg (by simp)]; rfl
theorem Yk {l : Layout} {p : Plan} (hz : p.aZ.length ≤ 1000) : ER l p = errs (fun i => some (Nb l p i)) (some 0) p.aZ.length 0 := by
 unfold ER
 refine yZ _ _ _ (fun c i hi => ?_) (fun c => ?_) (by omega)
 ·simp only [IJ]
  rw [if_pos (by simp; omega), uE hi, Option.bind_some]
  unfold Nb
  generalize p.aZ.getD i default = x
  unfold Tc
  have hc : ((((((decide (x.From < 0) || decide ((l.aQ.length : Int) ≤ x.From)) || decide (x.To < 0)) || decide ((l.aQ.length : Int) ≤ x.To)) || decide (x.From = x.To)) || decide (x.Weight < 1)) || decide (1048576 < x.Weight))
    = !(decide (0 ≤ x.From) && decide (x.From < (l.aQ.length : Int)) && decide (0 ≤ x.To) && decide (x.To < (l.aQ.length : Int)) && !decide (x.From = x.To) && decide (1 ≤ x.Weight) && decide (x.Weight ≤ 1048576)) := by
   rw [Bool.eq_iff_iff]
   simp only [Bool.or_eq_true, Bool.not_eq_true', Bool.and_eq_false_imp, Bool.and_eq_true, decide_eq_true_eq, decide_eq_false_iff_not, Bool.not_eq_false']
   omega
  rw [hc]
  cases (decide (0 ≤ x.From) && decide (x.From < (l.aQ.length : Int)) && decide (0 ≤ x.To) && decide (x.To < (l.aQ.length : Int)) && !decide (x.From = x.To) && decide (1 ≤ x.Weight) && decide (x.Weight ≤ 1048576)) with
  | false => rw [Bool.not_false, if_pos rfl, if_pos rfl]; exact rE (by decide)
  | true => rw [Bool.not_true, if_neg (by simp), if_neg (by simp)]; rfl
 ·simp only [IJ]
  rw [if_neg (by simp)]; rfl
theorem Yo (l : Layout) (p : Plan) : EY l p = some (Bc l p) := by
 unfold EY Iy Bc
 simp only [Option.bind_some]
 by_cases h0 : lI (nS l) = 0
 ·rw [if_neg (by simp [h0]), if_neg (show ¬ lI (nS l) ≠ 0 from fun h => h h0)]
  have hbad : ¬ Sz p → wM p true = some (if ¬ Sz p then 7 else if p.bL < 2 ∨ 7200 < p.bL then 4 else 0) := fun h => by rw [if_pos h]; rfl
  by_cases a1 : 8 < p.aT.length
  ·rw [if_pos (by simp; omega), decide_eq_true (by omega)]; exact hbad (fun h => by have := h.st; omega)
  rw [if_neg (by simp; omega)]
  by_cases a2 : 48 < p.Routes.length
  ·rw [if_pos (by simp; omega), decide_eq_true (by omega)]; exact hbad (fun h => by have := h.ro; omega)
  rw [if_neg (by simp; omega)]
  by_cases a3 : 16 < p.Lines.length
  ·rw [if_pos (by simp; omega), decide_eq_true (by omega)]; exact hbad (fun h => by have := h.li; omega)
  rw [if_neg (by simp; omega)]
  by_cases a4 : 32 < p.Changes.length
  ·rw [if_pos (by simp; omega), decide_eq_true (by omega)]; exact hbad (fun h => by have := h.ch; omega)
  rw [if_neg (by simp; omega)]
  by_cases a5 : 32 < p.Turns.length
  ·rw [if_pos (by simp; omega), decide_eq_true (by omega)]; exact hbad (fun h => by have := h.tu; omega)
  rw [if_neg (by simp; omega)]
  by_cases a6 : 32 < p.aV.length
  ·rw [if_pos (by simp; omega), decide_eq_true (by omega)]; exact hbad (fun h => by have := h.sy; omega)
  rw [if_neg (by simp; omega)]
  by_cases a7 : 32 < p.aZ.length
  ·rw [decide_eq_true (by omega)]; exact hbad (fun h => by have := h.de; omega)
  rw [decide_eq_false (by omega)]
  unfold wM
  rw [if_neg (by simp)]
  have := vD (B := EX p) (fun (_ : Unit) i => i) p.Lines (fun _ i => ∀ x ∈ p.Lines.take i, x.ay.length ≤ 12)
   (fun _ q => some (if (¬ ∀ x ∈ q, x.ay.length ≤ 12) then (7 : Int) else if p.bL < 2 ∨ 7200 < p.bL then 4 else 0)) ?_ ?_ FUEL () 0 (by simp) (by omega) (lJ (by omega))
  ·rw [this, List.drop_zero]
   congr 1
   by_cases hr : ∀ x ∈ p.Lines, x.ay.length ≤ 12
   ·have hs : Sz p := ⟨by omega, by omega, by omega, by omega, by omega, by omega, by omega, hr⟩
    rw [if_neg (show ¬ ¬ ∀ x ∈ p.Lines, x.ay.length ≤ 12 from fun h => h hr), if_neg (show ¬ ¬ Sz p from fun h => h hs)]
   ·rw [if_pos hr, if_pos (fun h => hr h.ri)]
  ·intro c _ i x q hI hdr hi hx hk
   simp only [EX]
   rw [if_pos (by simp; omega), hx, Option.bind_some]
   by_cases DW : 12 < x.ay.length
   ·rw [if_pos (by simp; omega), if_pos (fun h => by have := h x List.mem_cons_self; omega)]
   ·have ht : p.Lines.take (i + 1) = p.Lines.take i ++ [x] := by
     rw [List.take_succ_eq_append_getElem hi]
     rw [xU, List.getElem?_eq_getElem hi] at hx
     cases hx; rfl
    rw [if_neg (by simp; omega), hk () (by
     intro y hy; rw [ht] at hy
     rcases List.mem_append.1 hy with h | h
     ·exact hI y h
     ·rw [List.mem_singleton.1 h]; omega)]
    congr 1
    by_cases hq : ∀ y ∈ q, y.ay.length ≤ 12
    ·have hxq : ∀ y ∈ x :: q, y.ay.length ≤ 12 := fun y hy => by
      rcases List.mem_cons.1 hy with e | e
      ·rw [e]; omega
      ·exact hq y e
     rw [if_neg (show ¬ ¬ ∀ y ∈ q, y.ay.length ≤ 12 from fun h => h hq), if_neg (show ¬ ¬ ∀ y ∈ x :: q, y.ay.length ≤ 12 from fun h => h hxq)]
    ·rw [if_pos hq, if_pos (fun h => hq fun y hy => h y (List.mem_cons_of_mem _ hy))]
  ·intro c _ hI
   simp only [EX]
   rw [if_neg (by simp)]
   unfold PI
   rw [if_neg (show ¬ ¬ ∀ y ∈ ([] : List Line), y.ay.length ≤ 12 from fun h => h (fun y hy => by cases hy))]
   by_cases hp : p.bL < 2 ∨ 7200 < p.bL
   ·rw [if_pos (by simpa using hp), if_pos hp]
   ·rw [if_neg (by simpa using hp), if_neg hp]
 ·rw [if_pos (by simpa using h0), if_pos h0]
theorem Yt (l : Layout) (p : Plan) : EO l p = Cv l p := by
 unfold EO
 rw [yZ 8 (fun i => (idx ([18, 19, 20, 21, 22, 23, 24, 25] : List Nat) (i : Int)).bind fun x => Lf x l p) (some 0) (fun c i hi => ?_) (fun c => ?_) (by omega)]
 ·show ((EY l p).bind fun e => if decide (e ≠ 0) then some e else (EZ l p).bind fun e => if decide (e ≠ 0) then some e else (EW l p).bind fun e => if decide (e ≠ 0) then some e else
   (ET l p).bind fun e => if decide (e ≠ 0) then some e else (EP l p).bind fun e => if decide (e ≠ 0) then some e else (E8 l p).bind fun e => if decide (e ≠ 0) then some e else
   (E5 l p).bind fun e => if decide (e ≠ 0) then some e else (ER l p).bind fun e => if decide (e ≠ 0) then some e else some 0) = Cv l p
  unfold Cv
  rw [Yo, Option.bind_some]
  by_cases h0 : Bc l p = 0
  ·obtain ⟨hz, hp, hc⟩ := Xc h0
   rw [if_neg (by simp [h0]), if_neg (by simp [h0]), Yp l p (by have := hz.st; omega), zY]
   refine BJ _ _ (fun _ _ _ _ => rfl) (fun _ => ?_)
   rw [Yn l p (by have := hz.ro; omega), zY]
   refine BJ _ _ (fun _ _ _ _ => rfl) (fun hR => ?_)
   have o : RvOk l p := ⟨hz, hp, hc, fun r hr => by
    obtain ⟨i, hi, rfl⟩ := List.getElem_of_mem hr
    have := Option.some.inj (hR i (by omega) (by omega))
    unfold LP at this
    rwa [getD_lt hi] at this⟩
   rw [Yl o, zY]
   refine BJ _ _ (fun _ _ _ _ => rfl) (fun hL => ?_)
   have o' := UR o hL
   rw [Yj o', zY]
   refine BJ _ _ (fun _ _ _ _ => rfl) (fun _ => ?_)
   rw [Yr o', zY]
   refine BJ _ _ (fun _ _ _ _ => rfl) (fun _ => ?_)
   rw [Yq o', zY]
   refine BJ _ _ (fun _ _ _ _ => rfl) (fun _ => ?_)
   rw [Yk (by have := hz.de; omega), zY]
  ·rw [if_pos (by simpa using h0), if_pos (by simpa using h0)]
 ·simp only [IG]
  rw [if_pos (by simp; omega), Option.bind_assoc]
 ·simp only [IG]
  rw [if_neg (by simp)]; rfl
end Go.Proofs.Ytcalibhfgdncaaa

/- PlanJoinedRides, the plain law. -/
import Derived.Test.YtcalibhfgdncaaaSb1
import Derived.Test.YtcalibhfgdncaaaOp
import Derived.Test.YtcalibhfgdncaaaOpens
import Derived.Test.YtcalibhfgdncaaaWPlanJoinedRides
set_option linter.all false
namespace Go.Proofs.Ytcalibhfgdncaaa
open Go.Dc
set_option maxRecDepth 100000
theorem R9 : Iu = some true := by decide +kernel
theorem zZ {g : Nat → Option Int} {k : Option Int} (hg : ∀ j, ∃ e, g j = some e) (hk : ∃ e, k = some e) : ∀ m i, ∃ e, errs g k m i = some e := by
 intro m
 induction m with
 | zero => intro _; exact hk
 | succ m ih =>
  intro i
  obtain ⟨e, he⟩ := hg i
  simp only [errs]
  rw [he, Option.bind_some]
  split
  ·exact ⟨e, rfl⟩
  ·exact ih (i + 1)
theorem acA (l : Layout) (p : Plan) (i : Nat) : ∃ e, Av l p i = some e := by
 unfold Av
 split
 ·exact ⟨_, rfl⟩
 split
 ·exact ⟨_, rfl⟩
 split
 ·exact ⟨_, rfl⟩
 split
 ·exact ⟨_, rfl⟩
 exact zZ (fun j => ⟨_, rfl⟩) ⟨_, rfl⟩ _ _
theorem ac2 (l : Layout) (p : Plan) : ∃ e, Cv l p = some e := by
 unfold Cv
 split
 ·exact ⟨_, rfl⟩
 exact zZ (fun j => ⟨_, rfl⟩) (zZ (fun j => ⟨_, rfl⟩) (zZ (acA l p) (zZ (fun j => ⟨_, rfl⟩) (zZ (fun j => ⟨_, rfl⟩) (zZ (fun j => ⟨_, rfl⟩) (zZ (fun j => ⟨_, rfl⟩) ⟨_, rfl⟩ _ _) _ _) _ _) _ _) _ _) _ _) _ _
theorem ac3 {l : Layout} {p : Plan} (h : Cv l p = some 0) : uX l p ∧ ∀ i, i < p.Turns.length → Dj p i = 0 := by
 unfold Cv at h
 by_cases h0 : Bc l p = 0
 ·rw [if_neg (by simp [h0])] at h
  obtain ⟨hz, hp, hc⟩ := Xc h0
  obtain ⟨_, h⟩ := DJ _ _ h
  obtain ⟨a2, h⟩ := DJ _ _ h
  obtain ⟨a3, h⟩ := DJ _ _ h
  obtain ⟨_, h⟩ := DJ _ _ h
  obtain ⟨a5, _⟩ := DJ _ _ h
  have o : RvOk l p := ⟨hz, hp, hc, fun r hr => by
   obtain ⟨i, hi, rfl⟩ := List.getElem_of_mem hr
   have := Option.some.inj (a2 i (by omega) (by omega))
   unfold LP at this
   rwa [getD_lt hi] at this⟩
  exact ⟨UR o a3, fun i hi => Option.some.inj (a5 i (by omega) (by omega))⟩
 ·rw [if_pos (by simpa using h0)] at h
  exact absurd (Option.some.inj h) h0
theorem TL {l : Layout} {p : Plan} (o : uX l p) {i k : Int} (h : iZ p i k = true) : Es p i k = some (iC p (jD p i k), true) ∧ xq l (iC p (jD p i k)) := by
 obtain ⟨a1, a2, a3, a4⟩ := NY o h
 obtain ⟨b1, b2⟩ := EC o.toRvOk a3 a4
 have h2 := b2.two; have h3 := b2.ov
 unfold iZ mE at h
 simp only [Bool.and_eq_true, decide_eq_true_eq] at h
 refine ⟨?_, b2⟩
 unfold Es
 have g1 : ((decide (i < 0) || decide ((p.Lines.length : Int) ≤ i)) || decide (k < 0)) = false := by simp; omega
 have g2 : decide (((dZ p i.toNat).ay.length : Int) ≤ k) = false := by simp; omega
 have g3 : (decide ((jD p i k).aI < 0) || decide ((p.Routes.length : Int) ≤ (jD p i k).aI)) = false := by simp; omega
 have g4 : decide ((iC p (jD p i k)).Overlap < 0) = false := by simp; omega
 have g5 : decide (((iC p (jD p i k)).Steps.length : Int) ≤ (iC p (jD p i k)).Overlap) = false := by simp; omega
 rw [g1, Bool.not_false, sI rfl, a1, Option.bind_some, if_pos rfl, Bool.false_or, g2, if_neg (by simp), Option.bind_some, a2, Option.bind_some, g3, Bool.not_false, sI rfl, b1, Option.bind_some, Bool.false_or, g4, Bool.not_false, sI rfl, Option.bind_some, if_pos rfl, Option.bind_some, Bool.false_or, g5, if_neg (by simp), Option.bind_some]
theorem WV {l : Layout} {p : Plan} (o : uX l p) {i k : Int} (h : iZ p i k = true) : zf p i k = some (qC (iC p (jD p i k))) ∧ 0 ≤ qC (iC p (jD p i k)) := by
 obtain ⟨a, b⟩ := TL o h
 unfold zf
 rw [a, Option.bind_some, if_neg (by simp)]
 unfold LK
 rw [WW b, Option.bind_some, Option.bind_some]
 refine ⟨rfl, ?_⟩
 have := b.two; have := b.ov
 have hs := b.st _ (Ab (xs := (iC p (jD p i k)).Steps) (i := 0) (by omega))
 unfold qp at hs
 simp only [Bool.and_eq_true, decide_eq_true_eq] at hs
 exact hs.1.1
theorem WY {l : Layout} {p : Plan} (o : uX l p) {i k : Int} (h : iZ p i k = true) : Et p i k = some (o8 (iC p (jD p i k))) := by
 obtain ⟨a, b⟩ := TL o h
 have := b.len; have := b.ov
 have e : Fw (iC p (jD p i k)) = some (o8 (iC p (jD p i k))) := by
  unfold Fw
  rw [jK (mF (by omega) (by omega)), jK (mF (by omega) (by omega)), WZ b, Option.bind_some]; rfl
 unfold Et
 rw [a, Option.bind_some, if_neg (by simp)]
 show (Fw (iC p (jD p i k))).bind _ = _
 rw [e]; rfl
theorem acd {l : Layout} {p : Plan} (o : uX l p) (ht : ∀ i, i < p.Turns.length → Dj p i = 0) : La p () = some true := by
 have z := o.sz.tu
 unfold La
 have := vD (B := Er p) (fun (_ : Unit) i => i) p.Turns (fun _ _ => True) (fun _ _ => some true) ?_ ?_ FUEL () 0 trivial (by omega) (lJ (by omega))
 ·exact this
 ·intro c _ i x q _ hdr hi hx hk
  have h := ht i hi
  unfold Dj Q9 at h
  have ex : p.Turns.getD i default = x := by
   rw [uE hi] at hx; exact Option.some.inj hx
  rw [ex] at h
  split at h
  ·cases h
  split at h
  ·cases h
  split at h
  ·cases h
  rename_i c1 _ c2
  have c1' : (mE p x.From && mE p x.To && uh p x.Min x.Max) = true := by simpa only [Bool.not_eq_false] using c1
  simp only [Bool.and_eq_true] at c1'
  obtain ⟨a1, a2, a3⟩ := He c1'.1.1
  obtain ⟨b1, b2, b3⟩ := He c1'.1.2
  obtain ⟨_, l1, _⟩ := o.ln _ a2
  obtain ⟨_, m1, _⟩ := o.ln _ b2
  have hr : (dZ p x.From.toNat).ay.length ≤ 12 := o.sz.ri _ (Ab a2)
  have hF : iZ p x.From ((dZ p x.From.toNat).ay.length - 1) = true := by
   unfold iZ; rw [c1'.1.1]; simp; omega
  have hT : iZ p x.To 0 = true := by
   unfold iZ; rw [c1'.1.2]; simp; omega
  obtain ⟨s1, s2⟩ := WV o hT
  have e : o8 (iC p (jD p x.From ((dZ p x.From.toNat).ay.length - 1))) = qC (iC p (jD p x.To 0)) := by
   by_cases e : o8 (iC p (jD p x.From ((dZ p x.From.toNat).ay.length - 1))) = qC (iC p (jD p x.To 0))
   ·exact e
   ·exact absurd (Or.inl e) c2
  have g1 : (decide (x.From < 0) || decide ((p.Lines.length : Int) ≤ x.From)) = false := by
   have h9 := c1'.1.1
   unfold mE at h9
   simp only [Bool.and_eq_true, decide_eq_true_eq] at h9
   simp; omega
  simp only [Er]
  rw [if_pos (by simp; omega), hx, Option.bind_some, g1, Bool.not_false, sI rfl, a1, Option.bind_some, if_pos rfl, jK (mF (by omega) (by omega)), WY o hF, Option.bind_some, s1, Option.bind_some, e]
  rw [sI (by simp), Option.bind_some, if_neg (by simp; omega)]
  exact hk () trivial
 ·intro c _ _
  simp only [Er]
  rw [if_neg (by simp)]
  unfold Pt
  rw [R9]; rfl
theorem ab9 {l : Layout} {p : Plan} (o : uX l p) (t : Nat) (ht : t < p.Lines.length) (c1 : Nat → Option Bool) : iter (Cb p t c1) FUEL 1 = c1 (t + 1) := by
 obtain ⟨_, l1, l2⟩ := o.ln t ht
 have hr : (dZ p t).ay.length ≤ 12 := o.sz.ri _ (Ab ht)
 have := vD (B := Cb p t c1) (fun (_ : Unit) i => i) (dZ p t).ay (fun _ i => 1 ≤ i) (fun _ _ => c1 (t + 1)) ?_ ?_ FUEL () 1 (by omega) (by omega) (lJ (by omega))
 ·exact this
 ·intro c _ k x q hk1 hdr hi hx hk
  have hz := l2 k hi
  unfold tO at hz
  split at hz
  ·cases hz
  split at hz
  ·rename_i h9; exact absurd hz h9
  split at hz
  ·cases hz
  rename_i _ _ h3
  have hK : ∀ j : Nat, j < (dZ p t).ay.length → iZ p (t : Int) (j : Int) = true := fun j hj => by
   unfold iZ mE
   simp; omega
  have e1 : ((k : Int) - 1) = ((k - 1 : Nat) : Int) := by omega
  obtain ⟨s1, s2⟩ := WV o (hK k hi)
  have s3 := WY o (hK (k - 1) (by omega))
  have e : qC (iC p (jD p (t : Int) (k : Int))) = o8 (iC p (jD p (t : Int) ((k - 1 : Nat) : Int))) := by
   have h4 : qC (iC p (lZ (dZ p t) k)) = o8 (iC p (lZ (dZ p t) (k - 1))) := by
    by_cases e : qC (iC p (lZ (dZ p t) k)) = o8 (iC p (lZ (dZ p t) (k - 1)))
    ·exact e
    ·exact absurd ⟨by omega, e⟩ h3
   exact h4
  simp only [Cb]
  rw [uE ht, Option.bind_some, show p.Lines.getD t default = dZ p t from rfl, if_pos (by simp; omega), jK (mF (by omega) (by omega)), s1, Option.bind_some, e1, s3, Option.bind_some, sI (by simp [e]), Option.bind_some, if_neg (by simp; omega), jK (mF (by omega) (by omega))]
  exact hk () (by omega)
 ·intro c _ _
  simp only [Cb]
  rw [uE ht, Option.bind_some, show p.Lines.getD t default = dZ p t from rfl, if_neg (by simp)]
  rfl
theorem ab8 {l : Layout} {p : Plan} (o : uX l p) (ht : ∀ i, i < p.Turns.length → Dj p i = 0) : iter (Ca p) FUEL 0 = some true := by
 have z := o.sz.li
 have := vD (B := Ca p) (fun (_ : Unit) i => i) p.Lines (fun _ _ => True) (fun _ _ => some true) ?_ ?_ FUEL () 0 trivial (by omega) (lJ (by omega))
 ·exact this
 ·intro c _ i x q _ hdr hi hx hk
  simp only [Ca]
  rw [if_pos (by simp; omega), ab9 o i hi]
  exact hk () trivial
 ·intro c _ _
  simp only [Ca]
  rw [if_neg (by simp)]
  exact acd o ht
theorem ac4 (l : List Int) (how at_ v : Int) (hl : Wf.wf l) (_ : Wf.wf how) (_ : Wf.wf at_) (hv : Wf.wf v) : Lb l how at_ v = some true := by
 obtain ⟨y, hy, _, hp, hb⟩ := adl l (by have : l.length * 8 ≤ 140737488351232 := hl.1; omega)
 obtain ⟨q, hq, _⟩ := ac1 hb (fun r hr => ⟨(hp.rt r hr).pos, (hp.rt r hr).few⟩) (fun x hx => by have := (hp.ln x hx).few; omega) (how := how) (at_ := at_) (v := v) hv
 obtain ⟨e, he⟩ := ac2 y.1 q
 unfold Lb
 rw [hy, Option.bind_some, hq, Option.bind_some, Yt, he, Option.bind_some]
 by_cases h0 : e = 0
 ·subst h0
  obtain ⟨o, ht⟩ := ac3 he
  rw [if_neg (by simp)]
  exact ab8 o ht
 ·rw [if_pos (by simpa using h0), R9]; rfl
end Go.Proofs.Ytcalibhfgdncaaa

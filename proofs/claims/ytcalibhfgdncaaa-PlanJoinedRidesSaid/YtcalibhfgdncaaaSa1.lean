/- plan.Check in plain words: the first error of the lists. -/
import Derived.Test.YtcalibhfgdncaaaSe
import Derived.Test.YtcalibhfgdncaaaNm1
import Derived.Test.YtcalibhfgdncaaaTb1
import Derived.Test.YtcalibhfgdncaaaPs
set_option linter.all false
namespace Go.Proofs.Ytcalibhfgdncaaa
open Go.Dc
def iC (p : Plan) (r : aC) : aI := p.Routes.getD r.aI.toNat default
def qC (r : aI) : Int := (r.Steps.getD 0 default).Section
def o8 (r : aI) : Int := (r.Steps.getD ((r.Steps.length : Int) - r.Overlap - 1).toNat default).Section
def Jy (s : av) : Bool := ((((((decide (1 ≤ s.Length) && decide (s.Length ≤ 40)) && decide (1000 ≤ s.zU)) && decide (s.zU ≤ 100000)) && decide (100 ≤ s.zM)) && decide (s.zM ≤ 2000)) && decide (100 ≤ s.zO)) && decide (s.zO ≤ 2000)
def uh (p : Plan) (lo hi : Int) : Bool := ((decide (0 ≤ lo) && decide (lo ≤ hi)) && decide (hi ≤ 7200)) && decide (hi < lo + p.bL)
def wB (w : Int) : Bool := decide (0 ≤ w) && decide (w ≤ 1048576)
def Bg (r : aI) : List Step := r.Steps.take ((r.Steps.length : Int) - r.Overlap).toNat
def GD (l : Layout) (r : aI) (s : av) : Int :=
 if (xB l r).2.2 ≠ 0 then (xB l r).2.2 else if Jy s = false then 1
 else if (Bg r).any (fun st => decide ((mJ l st).Length < (if s.Length > 2 then s.Length else 2))) = true then 12 else 0
def vK (p : Plan) (x : Line) (k : Nat) (r : aC) : Bool :=
 decide (0 ≤ r.aI) && decide (r.aI < (p.Routes.length : Int)) && decide (0 ≤ r.Extra) && decide (r.Extra < p.bL) && uh p r.Min r.Max && !(decide (k + 1 = x.ay.length) && (decide (r.Min ≠ 0) || decide (r.Max ≠ 0)))
def lZ (x : Line) (k : Nat) : aC := x.ay.getD k default
def tO (l : Layout) (p : Plan) (x : Line) (k : Nat) : Int :=
 if vK p x k (lZ x k) = false then 4
 else if GD l (iC p (lZ x k)) (p.aT.getD x.av.toNat default) ≠ 0 then GD l (iC p (lZ x k)) (p.aT.getD x.av.toNat default)
 else if 0 < k ∧ qC (iC p (lZ x k)) ≠ o8 (iC p (lZ x (k - 1))) then 11 else 0
def QZ (p : Plan) (i : Nat) : Int :=
 if qU (p.aT.getD i default).Name.ba = false then 3 else if (p.aT.take i).any (fun t => decide (t.Name = (p.aT.getD i default).Name)) = true then 5
 else if Jy (p.aT.getD i default) = false then 4 else 0
def LP (l : Layout) (p : Plan) (i : Nat) : Int := (jZ l (p.Routes.getD i default)).2
def dZ (p : Plan) (i : Nat) : Line := p.Lines.getD i default
def Av (l : Layout) (p : Plan) (i : Nat) : Option Int :=
 if qU (dZ p i).Name.ba = false then some 3 else if (p.Lines.take i).any (fun t => decide (t.Name = (dZ p i).Name)) = true then some 5
 else if (decide (0 ≤ (dZ p i).av) && decide ((dZ p i).av < (p.aT.length : Int)) && wB (dZ p i).Weight) = false then some 4
 else if (dZ p i).ay.length = 0 then some 1
 else errs (fun k => some (tO l p (dZ p i) k)) (some 0) (dZ p i).ay.length 0
def mE (p : Plan) (i : Int) : Bool := decide (0 ≤ i) && decide (i < (p.Lines.length : Int))
def iZ (p : Plan) (i k : Int) : Bool := mE p i && decide (0 ≤ k) && decide (k < ((dZ p i.toNat).ay.length : Int))
def jD (p : Plan) (i k : Int) : aC := lZ (dZ p i.toNat) k.toNat
def Bd (l : Layout) (s : Int) : Int := (l.Sections.getD s.toNat default).og
def Gp (p : Plan) (c : Change) : Bool := iZ p c.kr c.nC && iZ p c.mq c.qh && !decide (c.kr = c.mq) && uh p c.Min c.Max && wB c.Weight
def SX (l : Layout) (p : Plan) (c : Change) : Int :=
 if Gp p c = false then 4
 else if Bd l (o8 (iC p (jD p c.kr c.nC))) = -1 ∨ Bd l (o8 (iC p (jD p c.kr c.nC))) ≠ Bd l (qC (iC p (jD p c.mq c.qh))) then 11 else 0
def M7 (l : Layout) (p : Plan) (i : Nat) : Int := SX l p (p.Changes.getD i default)
def Q9 (p : Plan) (i : Nat) (t : Turn) : Int :=
 if (mE p t.From && mE p t.To && uh p t.Min t.Max) = false then 4
 else if (p.Turns.take i).any (fun u => decide (u.From = t.From) || decide (u.To = t.To)) = true then 5
 else if o8 (iC p (jD p t.From ((dZ p t.From.toNat).ay.length - 1))) ≠ qC (iC p (jD p t.To 0)) ∨ (dZ p t.From.toNat).av ≠ (dZ p t.To.toNat).av then 11 else 0
def Dj (p : Plan) (i : Nat) : Int := Q9 p i (p.Turns.getD i default)
def Xb (p : Plan) (s : Sync) : Int :=
 if (iZ p s.qc s.qd && iZ p s.qH s.qI && !(decide (s.qc = s.qH) && decide (s.qd = s.qI)) && decide (0 ≤ s.Offset) && decide (s.Offset < p.bL)) = false then 4 else 0
def Q8 (p : Plan) (i : Nat) : Int := Xb p (p.aV.getD i default)
def Tc (l : Layout) (d : aX) : Int :=
 if (decide (0 ≤ d.From) && decide (d.From < (l.aQ.length : Int)) && decide (0 ≤ d.To) && decide (d.To < (l.aQ.length : Int)) && !decide (d.From = d.To) && decide (1 ≤ d.Weight) && decide (d.Weight ≤ 1048576)) = false then 4 else 0
def Nb (l : Layout) (p : Plan) (i : Nat) : Int := Tc l (p.aZ.getD i default)
structure Sz (p : Plan) : Prop where
 st : p.aT.length ≤ 8
 ro : p.Routes.length ≤ 48
 li : p.Lines.length ≤ 16
 ch : p.Changes.length ≤ 32
 tu : p.Turns.length ≤ 32
 sy : p.aV.length ≤ 32
 de : p.aZ.length ≤ 32
 ri : ∀ x ∈ p.Lines, x.ay.length ≤ 12
instance (p : Plan) : Decidable (Sz p) :=
 decidable_of_iff (p.aT.length ≤ 8 ∧ p.Routes.length ≤ 48 ∧ p.Lines.length ≤ 16 ∧ p.Changes.length ≤ 32 ∧ p.Turns.length ≤ 32 ∧ p.aV.length ≤ 32 ∧ p.aZ.length ≤ 32 ∧ ∀ x ∈ p.Lines, x.ay.length ≤ 12)
  ⟨fun ⟨a, b, c, d, e, f, g, h⟩ => ⟨a, b, c, d, e, f, g, h⟩, fun ⟨a, b, c, d, e, f, g, h⟩ => ⟨a, b, c, d, e, f, g, h⟩⟩
def Bc (l : Layout) (p : Plan) : Int := if lI (nS l) ≠ 0 then 1 else if ¬ Sz p then 7 else if p.bL < 2 ∨ 7200 < p.bL then 4 else 0
def Cv (l : Layout) (p : Plan) : Option Int :=
 if decide (Bc l p ≠ 0) then some (Bc l p) else
 errs (fun i => some (QZ p i)) (errs (fun i => some (LP l p i)) (errs (Av l p) (errs (fun i => some (M7 l p i)) (errs (fun i => some (Dj p i))
  (errs (fun i => some (Q8 p i)) (errs (fun i => some (Nb l p i)) (some 0) p.aZ.length 0) p.aV.length 0) p.Turns.length 0) p.Changes.length 0) p.Lines.length 0) p.Routes.length 0) p.aT.length 0
/-! ### What holds so far -/
structure RvOk (l : Layout) (p : Plan) : Prop where
 sz : Sz p
 per : 2 ≤ p.bL ∧ p.bL ≤ 7200
 ck : lI (nS l) = 0
 rt : ∀ r ∈ p.Routes, (jZ l r).2 = 0
theorem getD_lt {α : Type} [Inhabited α] {xs : List α} {i : Nat} (h : i < xs.length) : xs.getD i default = xs[i] := by simp [h]
theorem Ab {α : Type} [Inhabited α] {xs : List α} {i : Nat} (h : i < xs.length) : xs.getD i default ∈ xs := by rw [getD_lt h]; exact List.getElem_mem h
theorem uE {α : Type} [Inhabited α] {xs : List α} {i : Nat} (h : i < xs.length) : idx xs (i : Int) = some (xs.getD i default) := by rw [xU]; simp [h]
theorem Q7 {α : Type} {xs : List α} {i : Nat} (h : i ≤ xs.length) : sub xs 0 (i : Int) = some (xs.take i) := by
 unfold sub
 rw [if_pos (by omega)]
 simp
theorem rE {e : Int} {c : Option Int} (h : e ≠ 0) : (some e : Option Int) = ((some e).bind fun e => if decide (e ≠ 0) then some e else c) := by
 rw [Option.bind_some, if_pos (by simpa using h)]
theorem Xc {l : Layout} {p : Plan} (h : Bc l p = 0) : Sz p ∧ (2 ≤ p.bL ∧ p.bL ≤ 7200) ∧ lI (nS l) = 0 := by
 unfold Bc at h
 split at h
 ·cases h
 split at h
 ·cases h
 split at h
 ·cases h
 rename_i a b c
 exact ⟨Classical.not_not.1 b, by omega, Classical.not_not.1 a⟩
theorem EC {l : Layout} {p : Plan} (o : RvOk l p) {r : aC} (h0 : 0 ≤ r.aI) (h1 : r.aI < (p.Routes.length : Int)) : idx p.Routes r.aI = some (iC p r) ∧ xq l (iC p r) := by
 have hlt : r.aI.toNat < p.Routes.length := by omega
 exact ⟨xV h0 h1, QG (o.rt _ (Ab hlt))⟩
theorem WW {l : Layout} {r : aI} (o : xq l r) : idx r.Steps 0 = some (r.Steps.getD 0 default) := by
 have := o.two; have := o.ov
 exact xV (i := 0) (by omega) (by omega)
theorem WZ {l : Layout} {r : aI} (o : xq l r) : idx r.Steps ((r.Steps.length : Int) - r.Overlap - 1) = some (r.Steps.getD ((r.Steps.length : Int) - r.Overlap - 1).toNat default) := by
 have := o.two; have := o.ov
 exact xV (by omega) (by omega)
theorem QX {l : Layout} {p : Plan} (o : RvOk l p) {r : aC} (h0 : 0 ≤ r.aI) (h1 : r.aI < (p.Routes.length : Int)) : Cz p r = some (qC (iC p r)) := by
 obtain ⟨a, b⟩ := EC o h0 h1
 unfold Cz
 rw [a, Option.bind_some, WW b, Option.bind_some]; rfl
theorem Q0 {l : Layout} {p : Plan} (o : RvOk l p) {r : aC} (h0 : 0 ≤ r.aI) (h1 : r.aI < (p.Routes.length : Int)) : CB p r = some (o8 (iC p r)) := by
 obtain ⟨a, b⟩ := EC o h0 h1
 have := b.len; have := b.ov
 unfold CB
 rw [a, Option.bind_some, Option.bind_some, jK (mF (by omega) (by omega)), jK (mF (by omega) (by omega)), WZ b, Option.bind_some]; rfl
theorem M6 {l : Layout} {p : Plan} (o : RvOk l p) (lo hi : Int) : Cw p lo hi = some (uh p lo hi) := by
 have := o.per
 unfold Cw
 by_cases h : 0 ≤ lo ∧ lo ≤ hi ∧ hi ≤ 7200
 ·rw [jK (by simp [bP]; omega)]; rfl
 ·rw [jK (by simp; omega)]; rfl
theorem Wy {l : Layout} {r : aI} (o : xq l r) {s : Step} (h : s ∈ r.Steps) : idx l.Sections s.Section = some (l.Sections.getD s.Section.toNat default) := (LY o.v (o.st s h)).1
/-! ### The checks -/
theorem Td (s : av) : Gr s = some (Jy s) := rfl
theorem aew {l : Layout} {r : aI} (o : xq l r) : Gm r = some (Bg r) := by
 have := o.len; have := o.ov; have := o.two
 unfold Gm
 rw [jK (mF (by omega) (by omega))]
 have : sub r.Steps 0 ((r.Steps.length : Int) - r.Overlap) = some (Bg r) := by
  unfold sub Bg
  rw [if_pos (by omega)]
  simp
 rw [this]; rfl
theorem Yh {l : Layout} {r : aI} (h : (xB l r).2.2 = 0) : xq l r := by
 refine QG ?_
 by_cases h0 : (jZ l r).2 = 0
 ·exact h0
 ·unfold xB at h; rw [if_pos h0] at h; exact h
theorem YL (l : Layout) (r : aI) (s : av) : Gl l r s = some (GD l r s) := by
 unfold Gl J4 GD
 rw [adr, Option.bind_some]
 by_cases h0 : (xB l r).2.2 = 0
 ·rw [if_neg (by simp [h0]), if_neg (by simp [h0]), Td, Option.bind_some]
  have o := Yh h0
  cases hs : Jy s with
  | false => rfl
  | true =>
   rw [if_neg (by simp), if_neg (by simp), aew o, Option.bind_some]
   have hT : ∀ x ∈ Bg r, qp l x = true := fun x hx => o.st x (List.mem_of_mem_take hx)
   have hl : (Bg r).length ≤ 24 := by have := o.len; unfold Bg; rw [List.length_take]; omega
   generalize Bg r = T at hT hl
   have := vD (B := DC T l s (xB l r)) (fun (_ : Unit) i => i) T (fun _ _ => True)
    (fun _ q => some (if q.any (fun st => decide ((mJ l st).Length < (if s.Length > 2 then s.Length else 2))) = true then (qb.mk ([] : List Cell) 0, (12 : Int)) else (qb.mk (xB l r).1 (xB l r).2.1, 0))) ?_ ?_ FUEL () 0 trivial (by omega) (lJ (by omega))
   ·rw [this, Option.bind_some, List.drop_zero]
    cases (T.any fun st => decide ((mJ l st).Length < (if s.Length > 2 then s.Length else 2))) <;> rfl
   ·intro c _ i x q _ hdr hi hx hk
    simp only [DC]
    have hm : x ∈ T := List.mem_of_mem_drop (i := i) (by rw [hdr]; exact List.mem_cons_self)
    rw [if_pos (by simp; omega), hx, Option.bind_some, (LY o.v (hT x hm)).1, Option.bind_some]
    by_cases hc : (mJ l x).Length < (if s.Length > 2 then s.Length else 2)
    ·rw [if_pos (by simpa using hc), if_pos (by simp [hc])]
    ·rw [if_neg (by simpa using hc), hk () trivial]
     simp only [List.any_cons, decide_eq_false hc, Bool.false_or]
   ·intro c _ _
    simp only [DC]
    rw [if_neg (by simp)]
    rfl
 ·rw [if_pos (by simp [h0]), if_pos h0]; rfl
end Go.Proofs.Ytcalibhfgdncaaa

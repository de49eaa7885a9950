/- Several parts of the engine, one behind the other. -/
import Derived.Test.YtcalibhfgdncaaaGreatDoorQ1
import Derived.Test.YtcalibhfgdncaaaGreatDoorTm
import Derived.Test.YtcalibhfgdncaaaGreatDoorPs
import Derived.Test.YtcalibhfgdncaaaGreatDoorYc
import Derived.Test.YtcalibhfgdncaaaGreatDoorYx
import Derived.Test.YtcalibhfgdncaaaGreatDoorYd
set_option linter.all false
namespace Go.Dc
def errs (g : Nat → Option Int) (k : Option Int) : Nat → Nat → Option Int
 | 0, _ => k
 | m + 1, i => (g i).bind fun e => if decide (e ≠ 0) then some e else errs g k m (i + 1)
theorem aeZ {B : (Nat → Option Int) → Nat → Option Int} {n : Nat} {g : Nat → Option Int} {k : Option Int}
  (hs : ∀ c i, i < n → B c i = (g i).bind fun e => if decide (e ≠ 0) then some e else c (i + 1)) (he : ∀ c, B c n = k) :
  ∀ m i f, i + m = n → m < f → iter B f i = errs g k m i := by
 intro m
 induction m with
 | zero =>
  intro i f hi hf
  obtain ⟨f, rfl⟩ : ∃ x, f = x + 1 := ⟨f - 1, by omega⟩
  show B (iter B f) i = k
  rw [show i = n by omega, he]
 | succ m ih =>
  intro i f hi hf
  obtain ⟨f, rfl⟩ : ∃ x, f = x + 1 := ⟨f - 1, by omega⟩
  show B (iter B f) i = _
  rw [hs _ _ (by omega), ih (i + 1) f (by omega) (by omega)]
  rfl
theorem pW {B : (Nat → Option Int) → Nat → Option Int} (n : Nat) (g : Nat → Option Int) (k : Option Int)
  (hs : ∀ c i, i < n → B c i = (g i).bind fun e => if decide (e ≠ 0) then some e else c (i + 1)) (he : ∀ c, B c n = k) (hn : n ≤ 1000000000000000) :
  iter B FUEL 0 = errs g k n 0 := aeZ hs he n 0 FUEL (by omega) (je (by omega))
theorem ae1 {B : (Nat → Option Int) → Nat → Option Int} {n : Nat} {g : Nat → Option Int} {k : Option Int}
  (hs : ∀ c i, i < n → (∀ j, j < i → g j = some 0) → B c i = (g i).bind fun e => if decide (e ≠ 0) then some e else c (i + 1)) (he : ∀ c, B c n = k) :
  ∀ m i f, i + m = n → m < f → (∀ j, j < i → g j = some 0) → iter B f i = errs g k m i := by
 intro m
 induction m with
 | zero =>
  intro i f hi hf _
  obtain ⟨f, rfl⟩ : ∃ x, f = x + 1 := ⟨f - 1, by omega⟩
  show B (iter B f) i = k
  rw [show i = n by omega, he]
 | succ m ih =>
  intro i f hi hf hp
  obtain ⟨f, rfl⟩ : ∃ x, f = x + 1 := ⟨f - 1, by omega⟩
  show B (iter B f) i = _
  rw [hs _ _ (by omega) hp]
  simp only [errs]
  cases h : g i with
  | none => rfl
  | some e =>
   simp only [Option.bind_some]
   by_cases he : e = 0
   ·subst he
    rw [if_neg (by simp), if_neg (by simp), ih (i + 1) f (by omega) (by omega) (fun j hj => by
     by_cases e : j = i
     ·subst e; exact h
     ·exact hp j (by omega))]
   ·rw [if_pos (by simpa using he), if_pos (by simpa using he)]
theorem ae0 {B : (Nat → Option Int) → Nat → Option Int} (n : Nat) (g : Nat → Option Int) (k : Option Int)
  (hs : ∀ c i, i < n → (∀ j, j < i → g j = some 0) → B c i = (g i).bind fun e => if decide (e ≠ 0) then some e else c (i + 1)) (he : ∀ c, B c n = k) (hn : n ≤ 1000000000000000) :
  iter B FUEL 0 = errs g k n 0 := ae1 hs he n 0 FUEL (by omega) (je (by omega)) (fun j hj => by omega)
theorem aeY {α : Type} {B : (Nat → Option Int) → Nat → Option Int} (xs : List α) (q : α → Bool) (r k : Option Int)
  (hs : ∀ c (i : Nat) x, idx xs (i : Int) = some x → i < xs.length → B c i = if q x then r else c (i + 1)) (he : ∀ c, B c xs.length = k) :
  ∀ n i, i ≤ xs.length → xs.length - i < n → iter B n i = if (xs.drop i).any q then r else k := by
 intro n
 induction n with
 | zero => intro i _ h; omega
 | succ n ih =>
  intro i hi hn
  show B (iter B n) i = _
  by_cases hl : i = xs.length
  ·subst hl
   rw [he, List.drop_length]; rfl
  ·have hlt : i < xs.length := by omega
   have hd : xs.drop i = xs[i] :: xs.drop (i + 1) := List.drop_eq_getElem_cons hlt
   rw [hs _ i xs[i] (by simp [idx, hlt]) hlt, hd, List.any_cons]
   cases h : q xs[i] with
   | true => simp
   | false => rw [if_neg (by simp), ih (i + 1) (by omega) (by omega)]; simp
theorem MH {α : Type} {B : (Nat → Option Int) → Nat → Option Int} (xs : List α) (q : α → Bool) (r k : Option Int)
  (hs : ∀ c (i : Nat) x, idx xs (i : Int) = some x → i < xs.length → B c i = if q x then r else c (i + 1)) (he : ∀ c, B c xs.length = k) (hl : xs.length ≤ 1000000) :
  iter B FUEL 0 = if xs.any q then r else k := by
 have := aeY xs q r k hs he FUEL 0 (by omega) (je (by omega))
 rwa [List.drop_zero] at this
theorem MG {α : Type} {xs : List α} {i j : Nat} {x : α} (h : idx (xs.take i) (j : Int) = some x) : idx xs (j : Int) = some x := by
 rw [kC] at h ⊢
 rw [List.getElem?_take] at h
 split at h
 ·exact h
 ·cases h
theorem zy (g : Nat → Option Int) (K : Option Int) : ∀ m i, ((errs g (some 0) m i).bind fun e => if decide (e ≠ 0) then some e else K) = errs g K m i := by
 intro m
 induction m with
 | zero => intro i; rfl
 | succ m ih =>
  intro i
  simp only [errs]
  cases h : g i with
  | none => rfl
  | some e =>
   simp only [Option.bind_some]
   by_cases he : e = 0
   ·rw [if_neg (by simp [he]), if_neg (by simp [he]), ih]
   ·rw [if_pos (by simp [he]), if_pos (by simp [he]), Option.bind_some, if_pos (by simp [he])]
theorem rY {g g' : Nat → Option Int} {k k' : Option Int} : ∀ m i, (∀ j, i ≤ j → j < i + m → (∀ j', i ≤ j' → j' < j → g j' = some 0) → g j = g' j) →
  ((∀ j, i ≤ j → j < i + m → g j = some 0) → k = k') → errs g k m i = errs g' k' m i := by
 intro m
 induction m with
 | zero => intro i _ hk; exact hk (fun j _ _ => by omega)
 | succ m ih =>
  intro i hg hk
  simp only [errs]
  rw [← hg i (Nat.le_refl _) (by omega) (fun j _ _ => by omega)]
  cases h : g i with
  | none => rfl
  | some e =>
   simp only [Option.bind_some]
   by_cases he : e = 0
   ·subst he
    rw [if_neg (by simp), if_neg (by simp)]
    refine ih (i + 1) (fun j h1 h2 h3 => hg j (by omega) (by omega) fun j' a b => ?_) (fun h3 => hk fun j' a b => ?_)
    ·by_cases e : j' = i
     ·subst e; exact h
     ·exact h3 j' (by omega) b
    ·by_cases e : j' = i
     ·subst e; exact h
     ·exact h3 j' (by omega) (by omega)
   ·rw [if_pos (by simp [he]), if_pos (by simp [he])]
theorem zB {g : Nat → Option Int} {k : Option Int} : ∀ m i, errs g k m i = some 0 → (∀ j, i ≤ j → j < i + m → g j = some 0) ∧ k = some 0 := by
 intro m
 induction m with
 | zero => intro i h; exact ⟨fun j _ _ => by omega, h⟩
 | succ m ih =>
  intro i h
  simp only [errs] at h
  cases hg : g i with
  | none => rw [hg] at h; cases h
  | some e =>
   rw [hg, Option.bind_some] at h
   by_cases he : e = 0
   ·subst he
    rw [if_neg (by simp)] at h
    obtain ⟨h1, h2⟩ := ih (i + 1) h
    refine ⟨fun j a b => ?_, h2⟩
    by_cases e : j = i
    ·subst e; exact hg
    ·exact h1 j (by omega) (by omega)
   ·rw [if_pos (by simp [he])] at h
    cases h; exact absurd rfl he
theorem qK {α : Type} (g : Bool) (d v : α) : dV g d (some v) = some (if g then v else d) := by cases g <;> rfl
theorem aeQ {α : Type} {B : (Nat → Option Int) → Nat → Option Int} (xs : List α) (q : α → Bool)
  (hs : ∀ c (i : Nat) x, idx xs (i : Int) = some x → i < xs.length → B c i = if q x then some (i : Int) else c (i + 1)) (he : ∀ c, B c xs.length = some (-1)) :
  ∀ n i, i ≤ xs.length → xs.length - i < n → ((iter B n i).bind fun y => some (decide (0 ≤ y))) = some ((xs.drop i).any q) := by
 intro n
 induction n with
 | zero => intro i _ h; omega
 | succ n ih =>
  intro i hi hn
  show ((B (iter B n) i).bind _) = _
  by_cases hl : i = xs.length
  ·subst hl
   rw [he, List.drop_length]; rfl
  ·have hlt : i < xs.length := by omega
   have hd : xs.drop i = xs[i] :: xs.drop (i + 1) := List.drop_eq_getElem_cons hlt
   rw [hs _ i xs[i] (by simp [idx, hlt]) hlt, hd, List.any_cons]
   cases h : q xs[i] with
   | true => simp
   | false => rw [if_neg (by simp), ih (i + 1) (by omega) (by omega)]; simp
theorem QN {α : Type} {B : (Nat → Option Int) → Nat → Option Int} (xs : List α) (q : α → Bool)
  (hs : ∀ c (i : Nat) x, idx xs (i : Int) = some x → i < xs.length → B c i = if q x then some (i : Int) else c (i + 1)) (he : ∀ c, B c xs.length = some (-1))
  (hl : xs.length ≤ 1000000) : ((iter B FUEL 0).bind fun y => some (decide (0 ≤ y))) = some (xs.any q) := by
 have := aeQ xs q hs he FUEL 0 (by omega) (je (by omega))
 rwa [List.drop_zero] at this
end Go.Dc
namespace Go.Proofs.YtcalibhfgdncaaaGreatDoor
open Go.Dc
def gI (p : Plan) (r : fV) : aV := p.Routes.getD r.aV.toNat default
def oz (r : aV) : Int := (r.Steps.getD 0 default).Section
def kX (r : aV) : Int := (r.Steps.getD ((r.Steps.length : Int) - r.Overlap - 1).toNat default).Section
def qI (s : bL) : Bool := ((((((decide (1 ≤ s.Length) && decide (s.Length ≤ 40)) && decide (1000 ≤ s.lI)) && decide (s.lI ≤ 100000)) && decide (100 ≤ s.lF)) && decide (s.lF ≤ 2000)) && decide (100 ≤ s.lG)) && decide (s.lG ≤ 2000)
def kN (p : Plan) (lo hi : Int) : Bool := ((decide (0 ≤ lo) && decide (lo ≤ hi)) && decide (hi ≤ 7200)) && decide (hi < lo + p.dW)
def wB (w : Int) : Bool := decide (0 ≤ w) && decide (w ≤ 1048576)
def rJ (r : aV) : List Step := r.Steps.take ((r.Steps.length : Int) - r.Overlap).toNat
def zF (l : Layout) (r : aV) (s : bL) : Int :=
 if (rU l r).2.2 ≠ 0 then (rU l r).2.2 else if qI s = false then 1
 else if (rJ r).any (fun st => decide ((gV l st).Length < (if s.Length > 2 then s.Length else 2))) = true then 12 else 0
def oq (p : Plan) (x : Line) (k : Nat) (r : fV) : Bool :=
 decide (0 ≤ r.aV) && decide (r.aV < (p.Routes.length : Int)) && decide (0 ≤ r.Extra) && decide (r.Extra < p.dW) && kN p r.Min r.Max && !(decide (k + 1 = x.bq.length) && (decide (r.Min ≠ 0) || decide (r.Max ≠ 0)))
def iJ (x : Line) (k : Nat) : fV := x.bq.getD k default
def qc (l : Layout) (p : Plan) (x : Line) (k : Nat) : Int :=
 if oq p x k (iJ x k) = false then 4
 else if zF l (gI p (iJ x k)) (p.aY.getD x.bL.toNat default) ≠ 0 then zF l (gI p (iJ x k)) (p.aY.getD x.bL.toNat default)
 else if 0 < k ∧ oz (gI p (iJ x k)) ≠ kX (gI p (iJ x (k - 1))) then 11 else 0
def Gt (p : Plan) (i : Nat) : Int :=
 if jH (p.aY.getD i default).Name.ba = false then 3 else if (p.aY.take i).any (fun t => decide (t.Name = (p.aY.getD i default).Name)) = true then 5
 else if qI (p.aY.getD i default) = false then 4 else 0
def SH (l : Layout) (p : Plan) (i : Nat) : Int := (gU l (p.Routes.getD i default)).2
def dA (p : Plan) (i : Nat) : Line := p.Lines.getD i default
def vG (l : Layout) (p : Plan) (i : Nat) : Option Int :=
 if jH (dA p i).Name.ba = false then some 3 else if (p.Lines.take i).any (fun t => decide (t.Name = (dA p i).Name)) = true then some 5
 else if (decide (0 ≤ (dA p i).bL) && decide ((dA p i).bL < (p.aY.length : Int)) && wB (dA p i).Weight) = false then some 4
 else if (dA p i).bq.length = 0 then some 1
 else errs (fun k => some (qc l p (dA p i) k)) (some 0) (dA p i).bq.length 0
def gK (p : Plan) (i : Int) : Bool := decide (0 ≤ i) && decide (i < (p.Lines.length : Int))
def eF (p : Plan) (i k : Int) : Bool := gK p i && decide (0 ≤ k) && decide (k < ((dA p i.toNat).bq.length : Int))
def jl (p : Plan) (i k : Int) : fV := iJ (dA p i.toNat) k.toNat
def nR (l : Layout) (s : Int) : Int := (l.Sections.getD s.toNat default).mE
def rV (p : Plan) (c : Change) : Bool := eF p c.dX c.fG && eF p c.fK c.iN && !decide (c.dX = c.fK) && kN p c.Min c.Max && wB c.Weight
def Ia (l : Layout) (p : Plan) (c : Change) : Int :=
 if rV p c = false then 4
 else if nR l (kX (gI p (jl p c.dX c.fG))) = -1 ∨ nR l (kX (gI p (jl p c.dX c.fG))) ≠ nR l (oz (gI p (jl p c.fK c.iN))) then 11 else 0
def Me (l : Layout) (p : Plan) (i : Nat) : Int := Ia l p (p.Changes.getD i default)
def Od (p : Plan) (i : Nat) (t : Turn) : Int :=
 if (gK p t.From && gK p t.To && kN p t.Min t.Max) = false then 4
 else if (p.Turns.take i).any (fun u => decide (u.From = t.From) || decide (u.To = t.To)) = true then 5
 else if kX (gI p (jl p t.From ((dA p t.From.toNat).bq.length - 1))) ≠ oz (gI p (jl p t.To 0)) ∨ (dA p t.From.toNat).bL ≠ (dA p t.To.toNat).bL then 11 else 0
def Gy (p : Plan) (i : Nat) : Int := Od p i (p.Turns.getD i default)
def N8 (p : Plan) (s : Sync) : Int :=
 if (eF p s.jA s.jc && eF p s.jF s.jh && !(decide (s.jA = s.jF) && decide (s.jc = s.jh)) && decide (0 ≤ s.Offset) && decide (s.Offset < p.dW)) = false then 4 else 0
def Gu (p : Plan) (i : Nat) : Int := N8 p (p.bT.getD i default)
def Mh (l : Layout) (d : oD) : Int :=
 if (decide (0 ≤ d.From) && decide (d.From < (l.aX.length : Int)) && decide (0 ≤ d.To) && decide (d.To < (l.aX.length : Int)) && !decide (d.From = d.To) && decide (1 ≤ d.Weight) && decide (d.Weight ≤ 1048576)) = false then 4 else 0
def Dp (l : Layout) (p : Plan) (i : Nat) : Int := Mh l (p.bS.getD i default)
structure Sz (p : Plan) : Prop where
 st : p.aY.length ≤ 8
 ro : p.Routes.length ≤ 48
 li : p.Lines.length ≤ 16
 ch : p.Changes.length ≤ 32
 tu : p.Turns.length ≤ 32
 sy : p.bT.length ≤ 32
 de : p.bS.length ≤ 32
 ri : ∀ x ∈ p.Lines, x.bq.length ≤ 12
instance (p : Plan) : Decidable (Sz p) :=
 decidable_of_iff (p.aY.length ≤ 8 ∧ p.Routes.length ≤ 48 ∧ p.Lines.length ≤ 16 ∧ p.Changes.length ≤ 32 ∧ p.Turns.length ≤ 32 ∧ p.bT.length ≤ 32 ∧ p.bS.length ≤ 32 ∧ ∀ x ∈ p.Lines, x.bq.length ≤ 12)
  ⟨fun ⟨a, b, c, d, e, f, g, h⟩ => ⟨a, b, c, d, e, f, g, h⟩, fun ⟨a, b, c, d, e, f, g, h⟩ => ⟨a, b, c, d, e, f, g, h⟩⟩
def yN (l : Layout) (p : Plan) : Int := if jD (fD l) ≠ 0 then 1 else if ¬ Sz p then 7 else if p.dW < 2 ∨ 7200 < p.dW then 4 else 0
def tJ (l : Layout) (p : Plan) : Option Int :=
 if decide (yN l p ≠ 0) then some (yN l p) else
 errs (fun i => some (Gt p i)) (errs (fun i => some (SH l p i)) (errs (vG l p) (errs (fun i => some (Me l p i)) (errs (fun i => some (Gy p i))
  (errs (fun i => some (Gu p i)) (errs (fun i => some (Dp l p i)) (some 0) p.bS.length 0) p.bT.length 0) p.Turns.length 0) p.Changes.length 0) p.Lines.length 0) p.Routes.length 0) p.aY.length 0
/-! ### What holds so far -/
structure RvOk (l : Layout) (p : Plan) : Prop where
 sz : Sz p
 per : 2 ≤ p.dW ∧ p.dW ≤ 7200
 ck : jD (fD l) = 0
 rt : ∀ r ∈ p.Routes, (gU l r).2 = 0
theorem getD_lt {α : Type} [Inhabited α] {xs : List α} {i : Nat} (h : i < xs.length) : xs.getD i default = xs[i] := by simp [h]
theorem pU {α : Type} [Inhabited α] {xs : List α} {i : Nat} (h : i < xs.length) : xs.getD i default ∈ xs := by rw [getD_lt h]; exact List.getElem_mem h
theorem lM {α : Type} [Inhabited α] {xs : List α} {i : Nat} (h : i < xs.length) : idx xs (i : Int) = some (xs.getD i default) := by rw [kC]; simp [h]
theorem Tt {α : Type} {xs : List α} {i : Nat} (h : i ≤ xs.length) : sub xs 0 (i : Int) = some (xs.take i) := by
 unfold sub
 rw [if_pos (by omega)]
 simp
theorem nG {e : Int} {c : Option Int} (h : e ≠ 0) : (some e : Option Int) = ((some e).bind fun e => if decide (e ≠ 0) then some e else c) := by
 rw [Option.bind_some, if_pos (by simpa using h)]
theorem Z9 {l : Layout} {p : Plan} (h : yN l p = 0) : Sz p ∧ (2 ≤ p.dW ∧ p.dW ≤ 7200) ∧ jD (fD l) = 0 := by
 unfold yN at h
 split at h
 ·cases h
 split at h
 ·cases h
 split at h
 ·cases h
 rename_i a b c
 exact ⟨Classical.not_not.1 b, by omega, Classical.not_not.1 a⟩
theorem Aa {l : Layout} {p : Plan} (o : RvOk l p) {r : fV} (h0 : 0 ≤ r.aV) (h1 : r.aV < (p.Routes.length : Int)) : idx p.Routes r.aV = some (gI p r) ∧ pF l (gI p r) := by
 have hlt : r.aV.toNat < p.Routes.length := by omega
 exact ⟨qD h0 h1, wW (o.rt _ (pU hlt))⟩
theorem ZY {l : Layout} {r : aV} (o : pF l r) : idx r.Steps 0 = some (r.Steps.getD 0 default) := by
 have := o.two; have := o.ov
 exact qD (i := 0) (by omega) (by omega)
theorem Z5 {l : Layout} {r : aV} (o : pF l r) : idx r.Steps ((r.Steps.length : Int) - r.Overlap - 1) = some (r.Steps.getD ((r.Steps.length : Int) - r.Overlap - 1).toNat default) := by
 have := o.two; have := o.ov
 exact qD (by omega) (by omega)
theorem Ti {l : Layout} {p : Plan} (o : RvOk l p) {r : fV} (h0 : 0 ≤ r.aV) (h1 : r.aV < (p.Routes.length : Int)) : Ci p r = some (oz (gI p r)) := by
 obtain ⟨a, b⟩ := Aa o h0 h1
 unfold Ci
 rw [a, Option.bind_some, ZY b, Option.bind_some]; rfl
theorem Tn {l : Layout} {p : Plan} (o : RvOk l p) {r : fV} (h0 : 0 ≤ r.aV) (h1 : r.aV < (p.Routes.length : Int)) : Cj p r = some (kX (gI p r)) := by
 obtain ⟨a, b⟩ := Aa o h0 h1
 have := b.len; have := b.ov
 unfold Cj
 rw [a, Option.bind_some, Option.bind_some, bZ (dR (by omega) (by omega)), bZ (dR (by omega) (by omega)), Z5 b, Option.bind_some]; rfl
theorem OY {l : Layout} {p : Plan} (o : RvOk l p) (lo hi : Int) : Cc p lo hi = some (kN p lo hi) := by
 have := o.per
 unfold Cc
 by_cases h : 0 ≤ lo ∧ lo ≤ hi ∧ hi ≤ 7200
 ·rw [bZ (by simp [bP]; omega)]; rfl
 ·rw [bZ (by simp; omega)]; rfl
theorem NJ {l : Layout} {r : aV} (o : pF l r) {s : Step} (h : s ∈ r.Steps) : idx l.Sections s.Section = some (l.Sections.getD s.Section.toNat default) := (CO o.v (o.st s h)).1
/-! ### The checks -/
theorem Vl (s : bL) : Ie s = some (qI s) := rfl
theorem ahL {l : Layout} {r : aV} (o : pF l r) : H7 r = some (rJ r) := by
 have := o.len; have := o.ov; have := o.two
 unfold H7
 rw [bZ (dR (by omega) (by omega))]
 have : sub r.Steps 0 ((r.Steps.length : Int) - r.Overlap) = some (rJ r) := by
  unfold sub rJ
  rw [if_pos (by omega)]
  simp
 rw [this]; rfl
theorem U9 {l : Layout} {r : aV} (h : (rU l r).2.2 = 0) : pF l r := by
 refine wW ?_
 by_cases h0 : (gU l r).2 = 0
 ·exact h0
 ·unfold rU at h; rw [if_pos h0] at h; exact h
theorem abm (l : Layout) (r : aV) (s : bL) : H6 l r s = some (zF l r s) := by
 unfold H6 Mc zF
 rw [agp, Option.bind_some]
 by_cases h0 : (rU l r).2.2 = 0
 ·rw [if_neg (by simp [h0]), if_neg (by simp [h0]), Vl, Option.bind_some]
  have o := U9 h0
  cases hs : qI s with
  | false => rfl
  | true =>
   rw [if_neg (by simp), if_neg (by simp), ahL o, Option.bind_some]
   have hT : ∀ x ∈ rJ r, gM l x = true := fun x hx => o.st x (List.mem_of_mem_take hx)
   have hl : (rJ r).length ≤ 24 := by have := o.len; unfold rJ; rw [List.length_take]; omega
   generalize rJ r = T at hT hl
   have := jP (B := Dj T l s (rU l r)) (fun (_ : Unit) i => i) T (fun _ _ => True)
    (fun _ q => some (if q.any (fun st => decide ((gV l st).Length < (if s.Length > 2 then s.Length else 2))) = true then (nT.mk ([] : List Cell) 0, (12 : Int)) else (nT.mk (rU l r).1 (rU l r).2.1, 0))) ?_ ?_ FUEL () 0 trivial (by omega) (je (by omega))
   ·rw [this, Option.bind_some, List.drop_zero]
    cases (T.any fun st => decide ((gV l st).Length < (if s.Length > 2 then s.Length else 2))) <;> rfl
   ·intro c _ i x q _ hdr hi hx hk
    simp only [Dj]
    have hm : x ∈ T := List.mem_of_mem_drop (i := i) (by rw [hdr]; exact List.mem_cons_self)
    rw [if_pos (by simp; omega), hx, Option.bind_some, (CO o.v (hT x hm)).1, Option.bind_some]
    by_cases hc : (gV l x).Length < (if s.Length > 2 then s.Length else 2)
    ·rw [if_pos (by simpa using hc), if_pos (by simp [hc])]
    ·rw [if_neg (by simpa using hc), hk () trivial]
     simp only [List.any_cons, decide_eq_false hc, Bool.false_or]
   ·intro c _ _
    simp only [Dj]
    rw [if_neg (by simp)]
    rfl
 ·rw [if_pos (by simp [h0]), if_pos h0]; rfl
end Go.Proofs.YtcalibhfgdncaaaGreatDoor
namespace Go.Proofs.YtcalibhfgdncaaaGreatDoor
open Go.Dc
theorem aa1 (xs : List bL) (y : bL) (h : xs.length ≤ 1000) : KT xs y = some (xs.any fun t => decide (t.Name = y.Name)) := by
 unfold KT NQ
 refine QN xs _ (fun c i x hx hi => ?_) (fun c => ?_) (by omega)
 ·simp only [KX]
  rw [if_pos (by simp; omega), hx]; rfl
 ·simp only [KX]
  rw [if_neg (by simp)]; rfl
theorem aa0 (xs : List Line) (y : Line) (h : xs.length ≤ 1000) : KS xs y = some (xs.any fun t => decide (t.Name = y.Name)) := by
 unfold KS NP
 refine QN xs _ (fun c i x hx hi => ?_) (fun c => ?_) (by omega)
 ·simp only [KV]
  rw [if_pos (by simp; omega), hx]; rfl
 ·simp only [KV]
  rw [if_neg (by simp)]; rfl
theorem aa2 (xs : List Turn) (y : Turn) (h : xs.length ≤ 1000) : KU xs y = some (xs.any fun u => decide (u.From = y.From) || decide (u.To = y.To)) := by
 unfold KU NR
 refine QN xs _ (fun c i x hx hi => ?_) (fun c => ?_) (by omega)
 ·simp only [KY]
  rw [if_pos (by simp; omega), hx]; rfl
 ·simp only [KY]
  rw [if_neg (by simp)]; rfl
theorem aaT (l : Layout) (p : Plan) (h : p.aY.length ≤ 1000) : ED l p = errs (fun i => some (Gt p i)) (some 0) p.aY.length 0 := by
 unfold ED
 refine pW _ _ _ (fun c i hi => ?_) (fun c => ?_) (by omega)
 ·simp only [JO]
  rw [if_pos (by simp; omega), lM hi, Option.bind_some, Xp, Option.bind_some]
  unfold Gt
  by_cases h1 : jH (p.aY.getD i default).Name.ba = false
  ·rw [if_pos h1, if_pos (by rw [h1]; rfl)]; exact nG (by decide)
  ·rw [if_neg h1, if_neg (by simpa using h1), Tt (by omega), Option.bind_some, aa1 _ _ (by rw [List.length_take]; omega), Option.bind_some]
   by_cases h2 : ((p.aY.take i).any fun t => decide (t.Name = (p.aY.getD i default).Name)) = true
   ·rw [if_pos h2, if_pos h2]; exact nG (by decide)
   ·rw [if_neg h2, if_neg h2, Vl, Option.bind_some]
    by_cases h3 : qI (p.aY.getD i default) = false
    ·rw [if_pos h3, if_pos (by rw [h3]; rfl)]; exact nG (by decide)
    ·rw [if_neg h3, if_neg (by simpa using h3)]; rfl
 ·simp only [JO]
  rw [if_neg (by simp)]; rfl
theorem aaR (l : Layout) (p : Plan) (h : p.Routes.length ≤ 1000) : EA l p = errs (fun i => some (SH l p i)) (some 0) p.Routes.length 0 := by
 unfold EA
 refine pW _ _ _ (fun c i hi => ?_) (fun c => ?_) (by omega)
 ·simp only [JN]
  rw [if_pos (by simp; omega), lM hi, Option.bind_some, YT]; rfl
 ·simp only [JN]
  rw [if_neg (by simp)]; rfl
theorem SF {p : Plan} {x : Line} {k : Nat} {r : fV} (h : oq p x k r = true) : 0 ≤ r.aV ∧ r.aV < (p.Routes.length : Int) := by
 unfold oq at h
 simp only [Bool.and_eq_true, decide_eq_true_eq] at h
 exact ⟨h.1.1.1.1.1, h.1.1.1.1.2⟩
theorem Kz {l : Layout} {p : Plan} {x : Line} {k : Nat} (h : qc l p x k = 0) : 0 ≤ (iJ x k).aV ∧ (iJ x k).aV < (p.Routes.length : Int) := by
 unfold qc at h
 split at h
 ·cases h
 ·rename_i h1; exact SF (by simpa using h1)
theorem agU {l : Layout} {p : Plan} (o : RvOk l p) (x : Line) (hs : 0 ≤ x.bL ∧ x.bL < (p.aY.length : Int)) (hx : x.bq.length ≤ 12) (k : Nat) (hk : k < x.bq.length)
  (Jd : ∀ j, j < k → qc l p x j = 0) (hb : oq p x k (iJ x k) = true) : vN p (iJ x k) x l k false = some (qc l p x k) := by
 obtain ⟨r0, r1⟩ := SF hb
 unfold qc
 rw [if_neg (by simp [hb])]
 simp only [vN]
 rw [if_neg (by simp), (Aa o r0 r1).1, Option.bind_some, qD hs.1 hs.2, Option.bind_some, abm, Option.bind_some]
 by_cases f0 : zF l (gI p (iJ x k)) (p.aY.getD x.bL.toNat default) = 0
 ·rw [if_neg (by rw [f0]; simp), if_neg (fun h => h f0)]
  by_cases k0 : 0 < k
  ·have e1 : ((k : Int) - 1) = ((k - 1 : Nat) : Int) := by omega
   obtain ⟨q0, q1⟩ := Kz (Jd (k - 1) (by omega))
   have g : decide (0 < (k : Int)) = true := by simp; omega
   rw [bZ (by simp [bP]; omega), o9 g, e1, lM (by omega), Option.bind_some, o9 g, Ti o r0 r1, Option.bind_some, o9 g]
   rw [show x.bq.getD (k - 1) default = iJ x (k - 1) from rfl, Tn o q0 q1, Option.bind_some, g, Bool.true_and]
   by_cases e : oz (gI p (iJ x k)) = kX (gI p (iJ x (k - 1)))
   ·rw [if_neg (by simp [e]), if_neg (by simp [e])]
   ·rw [if_pos (by simpa using e), if_pos ⟨k0, e⟩]
  ·have g : decide (0 < (k : Int)) = false := by simp; omega
   rw [bZ (by simp; omega), oC g, Option.bind_some, oC g, Option.bind_some, oC g, Option.bind_some, g, Bool.false_and, if_neg (by simp), if_neg (fun h => k0 h.1)]
 ·rw [if_pos (by simpa using f0), if_pos f0]
theorem Zk {l : Layout} {p : Plan} (o : RvOk l p) (x : Line) (hs : 0 ≤ x.bL ∧ x.bL < (p.aY.length : Int)) (hx : x.bq.length ≤ 12) (k : Nat) (hk : k < x.bq.length)
  (Jd : ∀ j, j < k → qc l p x j = 0) : Ez l p x k = some (qc l p x k) := by
 have hgood := agU o x hs hx k hk Jd
 have hbad : oq p x k (iJ x k) = false → vN p (iJ x k) x l k true = some (qc l p x k) := by
  intro h; unfold qc; rw [if_pos h]; rfl
 unfold Ez
 rw [lM hk, Option.bind_some, show x.bq.getD k default = iJ x k from rfl]
 generalize iJ x k = r at *
 by_cases a1 : r.aV < 0
 ·rw [if_pos (by simpa using a1), decide_eq_true a1]
  exact hbad (by unfold oq; rw [decide_eq_false (show ¬ 0 ≤ r.aV by omega)]; simp)
 rw [if_neg (by simpa using a1)]
 by_cases a2 : (p.Routes.length : Int) ≤ r.aV
 ·rw [if_pos (by simpa using a2), decide_eq_true a2]
  exact hbad (by unfold oq; rw [decide_eq_false (show ¬ r.aV < (p.Routes.length : Int) by omega)]; simp)
 rw [if_neg (by simpa using a2)]
 by_cases a3 : r.Extra < 0
 ·rw [if_pos (by simpa using a3), decide_eq_true a3]
  exact hbad (by unfold oq; rw [decide_eq_false (show ¬ 0 ≤ r.Extra by omega)]; simp)
 rw [if_neg (by simpa using a3)]
 by_cases a4 : p.dW ≤ r.Extra
 ·rw [if_pos (by simpa using a4), decide_eq_true a4]
  exact hbad (by unfold oq; rw [decide_eq_false (show ¬ r.Extra < p.dW by omega)]; simp)
 rw [if_neg (by simpa using a4), OY o, Option.bind_some]
 cases a5 : kN p r.Min r.Max with
 | false =>
  rw [Bool.not_false, if_pos rfl]
  exact hbad (by unfold oq; rw [a5]; simp)
 | true =>
  rw [Bool.not_true, if_neg (by simp), bZ (dR (by omega) (by omega))]
  have e : (decide ((k : Int) = (x.bq.length : Int) - 1)) = decide (k + 1 = x.bq.length) := by
   rw [Bool.eq_iff_iff]; simp only [decide_eq_true_eq]; omega
  rw [e]
  have hB : oq p x k r = !(decide (k + 1 = x.bq.length) && (decide (r.Min ≠ 0) || decide (r.Max ≠ 0))) := by
   unfold oq
   rw [decide_eq_true (show 0 ≤ r.aV by omega), decide_eq_true (show r.aV < (p.Routes.length : Int) by omega), decide_eq_true (show 0 ≤ r.Extra by omega), decide_eq_true (show r.Extra < p.dW by omega), a5]
   rfl
  cases hg : (decide (k + 1 = x.bq.length) && (decide (r.Min ≠ 0) || decide (r.Max ≠ 0))) with
  | true => rw [hg] at hB; exact hbad hB
  | false => rw [hg] at hB; exact hgood hB
theorem aaf (w : Int) : JU w = some (wB w) := rfl
theorem aaP {l : Layout} {p : Plan} (o : RvOk l p) : Ey l p = errs (vG l p) (some 0) p.Lines.length 0 := by
 have hz := o.sz.li
 unfold Ey
 refine pW _ _ _ (fun c i hi => ?_) (fun c => ?_) (by omega)
 ·simp only [JM]
  rw [if_pos (by simp; omega), lM hi, Option.bind_some, show p.Lines.getD i default = dA p i from rfl, Xp, Option.bind_some]
  have hr : (dA p i).bq.length ≤ 12 := o.sz.ri _ (pU hi)
  unfold vG
  by_cases h1 : jH (dA p i).Name.ba = false
  ·rw [if_pos h1, if_pos (by rw [h1]; rfl)]; exact nG (by decide)
  rw [if_neg h1, if_neg (by simpa using h1), Tt (by omega), Option.bind_some, aa0 _ _ (by rw [List.length_take]; omega), Option.bind_some]
  by_cases h2 : ((p.Lines.take i).any fun t => decide (t.Name = (dA p i).Name)) = true
  ·rw [if_pos h2, if_pos h2]; exact nG (by decide)
  rw [if_neg h2, if_neg h2]
  have hk3 : Ce (dA p i) l p c i true = some 4 := rfl
  by_cases a1 : (dA p i).bL < 0
  ·rw [if_pos (by simpa using a1), decide_eq_true a1, hk3, if_pos (by rw [decide_eq_false (show ¬ 0 ≤ (dA p i).bL by omega)]; simp)]; exact nG (by decide)
  rw [if_neg (by simpa using a1)]
  by_cases a2 : (p.aY.length : Int) ≤ (dA p i).bL
  ·rw [if_pos (by simpa using a2), decide_eq_true a2, hk3, if_pos (by rw [decide_eq_false (show ¬ (dA p i).bL < (p.aY.length : Int) by omega)]; simp)]; exact nG (by decide)
  rw [if_neg (by simpa using a2), aaf, Option.bind_some]
  rw [decide_eq_true (show 0 ≤ (dA p i).bL by omega), decide_eq_true (show (dA p i).bL < (p.aY.length : Int) by omega), Bool.true_and, Bool.true_and]
  cases hw : wB (dA p i).Weight with
  | false => rw [Bool.not_false, hk3, if_pos rfl]; exact nG (by decide)
  | true =>
   rw [Bool.not_true, if_neg (by simp)]
   simp only [Ce]
   rw [if_neg (by simp)]
   by_cases h0 : (dA p i).bq.length = 0
   ·rw [if_pos (by simp [h0]), if_pos h0]; exact nG (by decide)
   ·rw [if_neg (by simp; intro e; exact h0 (by rw [e]; rfl)), if_neg h0]
    rw [zy, pW (B := Ew (dA p i) l p c i) (dA p i).bq.length (fun k => Ez l p (dA p i) k) (c (i + 1)) (fun c' k hk => ?_) (fun c' => ?_) (by omega)]
    ·refine rY _ _ (fun j _ hj hp => ?_) (fun _ => rfl)
     have : ∀ m, m ≤ j → (∀ j', j' < m → qc l p (dA p i) j' = 0) := by
      intro m
      induction m with
      | zero => intro _ j' h; omega
      | succ m ih =>
       intro hm j' hj'
       have ih' := ih (by omega)
       by_cases e : j' = m
       ·subst e
        have h3 := Zk o (dA p i) (by omega) hr j' (by omega) ih'
        have h4 := hp j' (by omega) (by omega)
        rw [h3] at h4
        exact Option.some.inj h4
       ·exact ih' j' (by omega)
     exact Zk o (dA p i) (by omega) hr j (by omega) (this j (Nat.le_refl _))
    ·simp only [Ew]
     rw [if_pos (by simp; omega)]
    ·simp only [Ew]
     rw [if_neg (by simp)]; rfl
 ·simp only [JM]
  rw [if_neg (by simp)]; rfl
structure LnOk (l : Layout) (p : Plan) : Prop extends RvOk l p where
 ln : ∀ i, i < p.Lines.length → (0 ≤ (dA p i).bL ∧ (dA p i).bL < (p.aY.length : Int)) ∧ 0 < (dA p i).bq.length ∧ ∀ k, k < (dA p i).bq.length → qc l p (dA p i) k = 0
theorem Xk {l : Layout} {p : Plan} {i : Nat} (h : vG l p i = some 0) : (0 ≤ (dA p i).bL ∧ (dA p i).bL < (p.aY.length : Int)) ∧ 0 < (dA p i).bq.length ∧ ∀ k, k < (dA p i).bq.length → qc l p (dA p i) k = 0 := by
 unfold vG at h
 split at h
 ·cases h
 split at h
 ·cases h
 split at h
 ·cases h
 split at h
 ·cases h
 rename_i _ _ h3 h4
 simp only [Bool.not_eq_false, Bool.and_eq_true, decide_eq_true_eq] at h3
 refine ⟨h3.1, by omega, fun k hk => ?_⟩
 exact Option.some.inj ((zB _ _ h).1 k (by omega) (by omega))
theorem QY {l : Layout} {p : Plan} (o : RvOk l p) (h : ∀ j, 0 ≤ j → j < 0 + p.Lines.length → vG l p j = some 0) : LnOk l p :=
 { toRvOk := o, ln := fun i hi => Xk (h i (by omega) (by omega)) }
theorem VR (p : Plan) (i k : Int) : Af p i k = some (eF p i k) := by
 unfold Af Cg eF
 simp only [Option.bind_some]
 rw [show (decide (0 ≤ i) && decide (i < (p.Lines.length : Int))) = gK p i from rfl]
 cases h : (gK p i && decide (0 ≤ k)) with
 | false => rw [oC rfl, Option.bind_some]; rfl
 | true =>
  have h1 : gK p i = true := by simp only [Bool.and_eq_true] at h; exact h.1
  unfold gK at h1
  simp only [Bool.and_eq_true, decide_eq_true_eq] at h1
  rw [o9 rfl, qD h1.1 h1.2, Option.bind_some]; rfl
theorem acd (p : Plan) (i : Int) : Cg p i = some (gK p i) := rfl
theorem xR {p : Plan} {i : Int} (h : gK p i = true) : idx p.Lines i = some (dA p i.toNat) ∧ i.toNat < p.Lines.length ∧ ((i.toNat : Nat) : Int) = i := by
 unfold gK at h
 simp only [Bool.and_eq_true, decide_eq_true_eq] at h
 exact ⟨qD h.1 h.2, by omega, by omega⟩
theorem Qb {l : Layout} {p : Plan} (o : LnOk l p) {i k : Int} (h : eF p i k = true) : idx p.Lines i = some (dA p i.toNat) ∧ idx (dA p i.toNat).bq k = some (jl p i k) ∧ 0 ≤ (jl p i k).aV ∧ (jl p i k).aV < (p.Routes.length : Int) := by
 unfold eF at h
 simp only [Bool.and_eq_true, decide_eq_true_eq] at h
 obtain ⟨a, b, _⟩ := xR h.1.1
 have := (o.ln _ b).2.2 k.toNat (by omega)
 exact ⟨a, qD h.1.2 h.2, Kz this⟩
theorem ZE {l : Layout} {r : aV} (o : pF l r) : idx l.Sections (oz r) = some (l.Sections.getD (oz r).toNat default) := by
 have := o.two; have := o.ov
 exact NJ o (pU (by omega))
theorem ZF {l : Layout} {r : aV} (o : pF l r) : idx l.Sections (kX r) = some (l.Sections.getD (kX r).toNat default) := by
 have := o.two; have := o.ov
 exact NJ o (pU (by omega))
theorem aaN {l : Layout} {p : Plan} (o : LnOk l p) : Et l p = errs (fun i => some (Me l p i)) (some 0) p.Changes.length 0 := by
 have hz := o.sz.ch
 unfold Et
 refine pW _ _ _ (fun c i hi => ?_) (fun c => ?_) (by omega)
 ·simp only [JK]
  rw [if_pos (by simp; omega), lM hi, Option.bind_some]
  unfold Me
  generalize p.Changes.getD i default = x
  unfold Ia
  conv => lhs; simp only [VR, OY o.toRvOk, aaf, qK, Option.bind_some]
  have hc : (((((!eF p x.dX x.fG) || (!(if (!(!eF p x.dX x.fG)) = true then eF p x.fK x.iN else default))) || decide (x.dX = x.fK)) ||
    (!(if (!(((!eF p x.dX x.fG) || (!(if (!(!eF p x.dX x.fG)) = true then eF p x.fK x.iN else default))) || decide (x.dX = x.fK))) = true then kN p x.Min x.Max else default))) ||
    (!(if (!((((!eF p x.dX x.fG) || (!(if (!(!eF p x.dX x.fG)) = true then eF p x.fK x.iN else default))) || decide (x.dX = x.fK)) ||
    (!(if (!(((!eF p x.dX x.fG) || (!(if (!(!eF p x.dX x.fG)) = true then eF p x.fK x.iN else default))) || decide (x.dX = x.fK))) = true then kN p x.Min x.Max else default)))) = true then wB x.Weight else default))) = !rV p x := by
   unfold rV
   cases eF p x.dX x.fG <;> cases eF p x.fK x.iN <;> cases decide (x.dX = x.fK) <;> cases kN p x.Min x.Max <;> cases wB x.Weight <;> rfl
  rw [hc]
  cases hb : rV p x with
  | false => rw [Bool.not_false, if_pos rfl, if_pos rfl]; exact nG (by decide)
  | true =>
   rw [Bool.not_true, if_neg (by simp), if_neg (by simp)]
   unfold rV at hb
   simp only [Bool.and_eq_true] at hb
   obtain ⟨a1, a2, a3, a4⟩ := Qb o hb.1.1.1.1
   obtain ⟨b1, b2, b3, b4⟩ := Qb o hb.1.1.1.2
   rw [a1, Option.bind_some, a2, Option.bind_some, Tn o.toRvOk a3 a4, Option.bind_some, ZF (Aa o.toRvOk a3 a4).2, Option.bind_some]
   rw [b1, Option.bind_some, b2, Option.bind_some, Ti o.toRvOk b3 b4, Option.bind_some, ZE (Aa o.toRvOk b3 b4).2, Option.bind_some]
   rw [show (l.Sections.getD (kX (gI p (jl p x.dX x.fG))).toNat default).mE = nR l (kX (gI p (jl p x.dX x.fG))) from rfl,
    show (l.Sections.getD (oz (gI p (jl p x.fK x.iN))).toNat default).mE = nR l (oz (gI p (jl p x.fK x.iN))) from rfl]
   by_cases e : nR l (kX (gI p (jl p x.dX x.fG))) = -1 ∨ nR l (kX (gI p (jl p x.dX x.fG))) ≠ nR l (oz (gI p (jl p x.fK x.iN)))
   ·rw [if_pos (by simpa using e), if_pos e]; exact nG (by decide)
   ·rw [if_neg (by simpa using e), if_neg e]; rfl
 ·simp only [JK]
  rw [if_neg (by simp)]; rfl
theorem aaV {l : Layout} {p : Plan} (o : LnOk l p) : EG l p = errs (fun i => some (Gy p i)) (some 0) p.Turns.length 0 := by
 have hz := o.sz.tu
 unfold EG
 refine pW _ _ _ (fun c i hi => ?_) (fun c => ?_) (by omega)
 ·simp only [JR]
  rw [if_pos (by simp; omega), lM hi, Option.bind_some]
  unfold Gy
  generalize p.Turns.getD i default = x
  unfold Od
  conv => lhs; simp only [acd, OY o.toRvOk, qK, Option.bind_some]
  have hc : (((!gK p x.From) || (!(if (!(!gK p x.From)) = true then gK p x.To else default))) ||
    (!(if (!((!gK p x.From) || (!(if (!(!gK p x.From)) = true then gK p x.To else default)))) = true then kN p x.Min x.Max else default))) = !(gK p x.From && gK p x.To && kN p x.Min x.Max) := by
   cases gK p x.From <;> cases gK p x.To <;> cases kN p x.Min x.Max <;> rfl
  rw [hc]
  cases hb : (gK p x.From && gK p x.To && kN p x.Min x.Max) with
  | false => rw [Bool.not_false, if_pos rfl, if_pos rfl]; exact nG (by decide)
  | true =>
   rw [Bool.not_true, if_neg (by simp), if_neg (by simp), Tt (by omega), Option.bind_some, aa2 _ _ (by rw [List.length_take]; omega), Option.bind_some]
   by_cases h2 : ((p.Turns.take i).any fun u => decide (u.From = x.From) || decide (u.To = x.To)) = true
   ·rw [if_pos h2, if_pos h2]; exact nG (by decide)
   rw [if_neg h2, if_neg h2]
   simp only [Bool.and_eq_true] at hb
   obtain ⟨a1, a2, a3⟩ := xR hb.1.1
   obtain ⟨b1, b2, b3⟩ := xR hb.1.2
   obtain ⟨_, l1, l2⟩ := o.ln _ a2
   obtain ⟨_, m1, m2⟩ := o.ln _ b2
   have hr := o.sz.ri _ (pU a2)
   rw [show p.Lines.getD x.From.toNat default = dA p x.From.toNat from rfl] at hr
   rw [a1, Option.bind_some, b1, Option.bind_some]
   simp only [MP]
   have e1 : ((dA p x.From.toNat).bq.length : Int) - 1 = (((dA p x.From.toNat).bq.length - 1 : Nat) : Int) := by omega
   have ra : jl p x.From ((dA p x.From.toNat).bq.length - 1) = iJ (dA p x.From.toNat) ((dA p x.From.toNat).bq.length - 1) := by
    unfold jl; rw [e1]; rfl
   rw [ra, show jl p x.To 0 = iJ (dA p x.To.toNat) 0 from rfl]
   obtain ⟨q0, q1⟩ := Kz (l2 ((dA p x.From.toNat).bq.length - 1) (by omega))
   obtain ⟨t0, t1⟩ := Kz (m2 0 (by omega))
   rw [bZ (dR (by omega) (by omega)), e1, lM (by omega), Option.bind_some, qD (i := 0) (by omega) (by omega), Option.bind_some]
   rw [show (dA p x.From.toNat).bq.getD ((dA p x.From.toNat).bq.length - 1) default = iJ (dA p x.From.toNat) ((dA p x.From.toNat).bq.length - 1) from rfl,
    show (dA p x.To.toNat).bq.getD (0 : Int).toNat default = iJ (dA p x.To.toNat) 0 from rfl]
   rw [Tn o.toRvOk q0 q1, Option.bind_some, Ti o.toRvOk t0 t1, Option.bind_some]
   by_cases e : kX (gI p (iJ (dA p x.From.toNat) ((dA p x.From.toNat).bq.length - 1))) ≠ oz (gI p (iJ (dA p x.To.toNat) 0)) ∨ (dA p x.From.toNat).bL ≠ (dA p x.To.toNat).bL
   ·rw [if_pos (by simpa using e), if_pos e]; exact nG (by decide)
   ·rw [if_neg (by simpa using e), if_neg e]; rfl
 ·simp only [JR]
  rw [if_neg (by simp)]; rfl
theorem aaU {l : Layout} {p : Plan} (o : LnOk l p) : EF l p = errs (fun i => some (Gu p i)) (some 0) p.bT.length 0 := by
 have hz := o.sz.sy
 unfold EF
 refine pW _ _ _ (fun c i hi => ?_) (fun c => ?_) (by omega)
 ·simp only [JQ]
  rw [if_pos (by simp; omega), lM hi, Option.bind_some]
  unfold Gu
  generalize p.bT.getD i default = x
  unfold N8
  conv => lhs; simp only [VR, qK, Option.bind_some]
  have hc : (((((!eF p x.jA x.jc) || (!(if (!(!eF p x.jA x.jc)) = true then eF p x.jF x.jh else default))) || (decide (x.jA = x.jF) && decide (x.jc = x.jh))) || decide (x.Offset < 0)) || decide (p.dW ≤ x.Offset))
    = !(eF p x.jA x.jc && eF p x.jF x.jh && !(decide (x.jA = x.jF) && decide (x.jc = x.jh)) && decide (0 ≤ x.Offset) && decide (x.Offset < p.dW)) := by
   rw [show decide (x.Offset < 0) = !decide (0 ≤ x.Offset) by rw [← decide_not]; simp, show decide (p.dW ≤ x.Offset) = !decide (x.Offset < p.dW) by rw [← decide_not]; simp]
   cases eF p x.jA x.jc <;> cases eF p x.jF x.jh <;> cases decide (x.jA = x.jF) <;> cases decide (x.jc = x.jh) <;> cases decide (0 ≤ x.Offset) <;> cases decide (x.Offset < p.dW) <;> rfl
  rw [hc]
  cases (eF p x.jA x.jc && eF p x.jF x.jh && !(decide (x.jA = x.jF) && decide (x.jc = x.jh)) && decide (0 ≤ x.Offset) && decide (x.Offset < p.dW)) with
  | false => rw [Bool.not_false, if_pos rfl, if_pos rfl]; exact nG (by decide)
  | true => rw [Bool.not_true, if_neg (by simp), if_neg (by simp)]; rfl
 ·simp only [JQ]
  rw [if_neg (by simp)]; rfl
theorem aaO {l : Layout} {p : Plan} (hz : p.bS.length ≤ 1000) : Eu l p = errs (fun i => some (Dp l p i)) (some 0) p.bS.length 0 := by
 unfold Eu
 refine pW _ _ _ (fun c i hi => ?_) (fun c => ?_) (by omega)
 ·simp only [JL]
  rw [if_pos (by simp; omega), lM hi, Option.bind_some]
  unfold Dp
  generalize p.bS.getD i default = x
  unfold Mh
  have hc : ((((((decide (x.From < 0) || decide ((l.aX.length : Int) ≤ x.From)) || decide (x.To < 0)) || decide ((l.aX.length : Int) ≤ x.To)) || decide (x.From = x.To)) || decide (x.Weight < 1)) || decide (1048576 < x.Weight))
    = !(decide (0 ≤ x.From) && decide (x.From < (l.aX.length : Int)) && decide (0 ≤ x.To) && decide (x.To < (l.aX.length : Int)) && !decide (x.From = x.To) && decide (1 ≤ x.Weight) && decide (x.Weight ≤ 1048576)) := by
   rw [Bool.eq_iff_iff]
   simp only [Bool.or_eq_true, Bool.not_eq_true', Bool.and_eq_false_imp, Bool.and_eq_true, decide_eq_true_eq, decide_eq_false_iff_not, Bool.not_eq_false']
   omega
  rw [hc]
  cases (decide (0 ≤ x.From) && decide (x.From < (l.aX.length : Int)) && decide (0 ≤ x.To) && decide (x.To < (l.aX.length : Int)) && !decide (x.From = x.To) && decide (1 ≤ x.Weight) && decide (x.Weight ≤ 1048576)) with
  | false => rw [Bool.not_false, if_pos rfl, if_pos rfl]; exact nG (by decide)
  | true => rw [Bool.not_true, if_neg (by simp), if_neg (by simp)]; rfl
 ·simp only [JL]
  rw [if_neg (by simp)]; rfl
theorem aaS (l : Layout) (p : Plan) : EC l p = some (yN l p) := by
 unfold EC Jw yN
 simp only [Option.bind_some]
 by_cases h0 : jD (fD l) = 0
 ·rw [if_neg (by simp [h0]), if_neg (show ¬ jD (fD l) ≠ 0 from fun h => h h0)]
  have hbad : ¬ Sz p → vO p true = some (if ¬ Sz p then 7 else if p.dW < 2 ∨ 7200 < p.dW then 4 else 0) := fun h => by rw [if_pos h]; rfl
  by_cases a1 : 8 < p.aY.length
  ·rw [if_pos (by simp; omega), decide_eq_true (by omega)]; exact hbad (fun h => by have := h.st; omega)
  rw [if_neg (by simp; omega)]
  by_cases a2 : 48 < p.Routes.length
  ·rw [if_pos (by simp; omega), decide_eq_true (by omega)]; exact hbad (fun h => by have := h.ro; omega)
  rw [if_neg (by simp; omega)]
  by_cases a3 : 16 < p.Lines.length
  ·rw [if_pos (by simp; omega), decide_eq_true (by omega)]; exact hbad (fun h => by have := h.li; omega)
  rw [if_neg (by simp; omega)]
  by_cases a4 : 32 < p.Changes.length
  ·rw [if_pos (by simp; omega), decide_eq_true (by omega)]; exact hbad (fun h => by have := h.ch; omega)
  rw [if_neg (by simp; omega)]
  by_cases a5 : 32 < p.Turns.length
  ·rw [if_pos (by simp; omega), decide_eq_true (by omega)]; exact hbad (fun h => by have := h.tu; omega)
  rw [if_neg (by simp; omega)]
  by_cases a6 : 32 < p.bT.length
  ·rw [if_pos (by simp; omega), decide_eq_true (by omega)]; exact hbad (fun h => by have := h.sy; omega)
  rw [if_neg (by simp; omega)]
  by_cases a7 : 32 < p.bS.length
  ·rw [decide_eq_true (by omega)]; exact hbad (fun h => by have := h.de; omega)
  rw [decide_eq_false (by omega)]
  unfold vO
  rw [if_neg (by simp)]
  have := jP (B := EB p) (fun (_ : Unit) i => i) p.Lines (fun _ i => ∀ x ∈ p.Lines.take i, x.bq.length ≤ 12)
   (fun _ q => some (if (¬ ∀ x ∈ q, x.bq.length ≤ 12) then (7 : Int) else if p.dW < 2 ∨ 7200 < p.dW then 4 else 0)) ?_ ?_ FUEL () 0 (by simp) (by omega) (je (by omega))
  ·rw [this, List.drop_zero]
   congr 1
   by_cases hr : ∀ x ∈ p.Lines, x.bq.length ≤ 12
   ·have hs : Sz p := ⟨by omega, by omega, by omega, by omega, by omega, by omega, by omega, hr⟩
    rw [if_neg (show ¬ ¬ ∀ x ∈ p.Lines, x.bq.length ≤ 12 from fun h => h hr), if_neg (show ¬ ¬ Sz p from fun h => h hs)]
   ·rw [if_pos hr, if_pos (fun h => hr h.ri)]
  ·intro c _ i x q hI hdr hi hx hk
   simp only [EB]
   rw [if_pos (by simp; omega), hx, Option.bind_some]
   by_cases QD : 12 < x.bq.length
   ·rw [if_pos (by simp; omega), if_pos (fun h => by have := h x List.mem_cons_self; omega)]
   ·have ht : p.Lines.take (i + 1) = p.Lines.take i ++ [x] := by
     rw [List.take_succ_eq_append_getElem hi]
     rw [kC, List.getElem?_eq_getElem hi] at hx
     cases hx; rfl
    rw [if_neg (by simp; omega), hk () (by
     intro y hy; rw [ht] at hy
     rcases List.mem_append.1 hy with h | h
     ·exact hI y h
     ·rw [List.mem_singleton.1 h]; omega)]
    congr 1
    by_cases hq : ∀ y ∈ q, y.bq.length ≤ 12
    ·have hxq : ∀ y ∈ x :: q, y.bq.length ≤ 12 := fun y hy => by
      rcases List.mem_cons.1 hy with e | e
      ·rw [e]; omega
      ·exact hq y e
     rw [if_neg (show ¬ ¬ ∀ y ∈ q, y.bq.length ≤ 12 from fun h => h hq), if_neg (show ¬ ¬ ∀ y ∈ x :: q, y.bq.length ≤ 12 from fun h => h hxq)]
    ·rw [if_pos hq, if_pos (fun h => hq fun y hy => h y (List.mem_cons_of_mem _ hy))]
  ·intro c _ hI
   simp only [EB]
   rw [if_neg (by simp)]
   unfold Ri
   rw [if_neg (show ¬ ¬ ∀ y ∈ ([] : List Line), y.bq.length ≤ 12 from fun h => h (fun y hy => by cases hy))]
   by_cases hp : p.dW < 2 ∨ 7200 < p.dW
   ·rw [if_pos (by simpa using hp), if_pos hp]
   ·rw [if_neg (by simpa using hp), if_neg hp]
 ·rw [if_pos (by simpa using h0), if_pos h0]
theorem Ve (l : Layout) (p : Plan) : BZ l p = tJ l p := by
 unfold BZ
 rw [pW 8 (fun i => (idx ([32, 33, 34, 35, 36, 37, 38, 39] : List Nat) (i : Int)).bind fun x => MO x l p) (some 0) (fun c i hi => ?_) (fun c => ?_) (by omega)]
 ·show ((EC l p).bind fun e => if decide (e ≠ 0) then some e else (ED l p).bind fun e => if decide (e ≠ 0) then some e else (EA l p).bind fun e => if decide (e ≠ 0) then some e else
   (Ey l p).bind fun e => if decide (e ≠ 0) then some e else (Et l p).bind fun e => if decide (e ≠ 0) then some e else (EG l p).bind fun e => if decide (e ≠ 0) then some e else
   (EF l p).bind fun e => if decide (e ≠ 0) then some e else (Eu l p).bind fun e => if decide (e ≠ 0) then some e else some 0) = tJ l p
  unfold tJ
  rw [aaS, Option.bind_some]
  by_cases h0 : yN l p = 0
  ·obtain ⟨hz, hp, hc⟩ := Z9 h0
   rw [if_neg (by simp [h0]), if_neg (by simp [h0]), aaT l p (by have := hz.st; omega), zy]
   refine rY _ _ (fun _ _ _ _ => rfl) (fun _ => ?_)
   rw [aaR l p (by have := hz.ro; omega), zy]
   refine rY _ _ (fun _ _ _ _ => rfl) (fun hR => ?_)
   have o : RvOk l p := ⟨hz, hp, hc, fun r hr => by
    obtain ⟨i, hi, rfl⟩ := List.getElem_of_mem hr
    have := Option.some.inj (hR i (by omega) (by omega))
    unfold SH at this
    rwa [getD_lt hi] at this⟩
   rw [aaP o, zy]
   refine rY _ _ (fun _ _ _ _ => rfl) (fun hL => ?_)
   have o' := QY o hL
   rw [aaN o', zy]
   refine rY _ _ (fun _ _ _ _ => rfl) (fun _ => ?_)
   rw [aaV o', zy]
   refine rY _ _ (fun _ _ _ _ => rfl) (fun _ => ?_)
   rw [aaU o', zy]
   refine rY _ _ (fun _ _ _ _ => rfl) (fun _ => ?_)
   rw [aaO (by have := hz.de; omega), zy]
  ·rw [if_pos (by simpa using h0), if_pos (by simpa using h0)]
 ·simp only [JI]
  rw [if_pos (by simp; omega), Option.bind_assoc]
 ·simp only [JI]
  rw [if_neg (by simp)]; rfl
end Go.Proofs.YtcalibhfgdncaaaGreatDoor
namespace Go.Proofs.YtcalibhfgdncaaaGreatDoor
open Go.Dc
theorem wK (n hi : Int) : mJ n 0 (hi - 1) = some (decide (0 ≤ n) && decide (n < hi)) := by
 unfold mJ
 rw [show decide (n ≤ hi - 1) = decide (n < hi) from by rw [Bool.eq_iff_iff]; simp only [decide_eq_true_eq]; omega]
theorem OX {l : Layout} {p : Plan} (o : RvOk l p) (lo hi : Int) : Cy p lo hi = some (kN p lo hi) := by
 have hp := o.per
 unfold Cy kN
 have hw : 0 ≤ lo → lo ≤ 7200 → IntKind.i64.wrap (lo + p.dW) = lo + p.dW := fun h0 h1 => by
  rw [IntKind.wrap_i64]; omega
 congr 1
 rw [Bool.eq_iff_iff]
 simp only [Bool.and_eq_true, decide_eq_true_eq]
 constructor
 ·rintro ⟨⟨⟨a, b⟩, c⟩, d⟩
  rw [hw a (by omega)] at c
  exact ⟨⟨⟨a, b⟩, d⟩, c⟩
 ·rintro ⟨⟨⟨a, b⟩, d⟩, c⟩
  exact ⟨⟨⟨a, b⟩, by rw [hw a (by omega)]; exact c⟩, d⟩
theorem Z4 (s : bL) : FD s = some (qI s) := by
 have e : qI s = ((((decide (1 ≤ s.Length) && decide (s.Length ≤ 40)) && (decide (1000 ≤ s.lI) && decide (s.lI ≤ 100000))) && (decide (100 ≤ s.lF) && decide (s.lF ≤ 2000))) && (decide (100 ≤ s.lG) && decide (s.lG ≤ 2000))) := by
  unfold qI; simp only [Bool.and_assoc]
 rw [e]
 unfold FD wV
 simp only [Option.bind_some, qK]
 generalize (decide (1 ≤ s.Length) && decide (s.Length ≤ 40)) = a
 generalize (decide (1000 ≤ s.lI) && decide (s.lI ≤ 100000)) = b
 generalize (decide (100 ≤ s.lF) && decide (s.lF ≤ 2000)) = c
 generalize (decide (100 ≤ s.lG) && decide (s.lG ≤ 2000)) = d
 cases a <;> cases b <;> cases c <;> cases d <;> rfl
theorem ahC (p : Plan) (hz : p.aY.length ≤ 8) (i : Nat) (hi : i < p.aY.length) : F8 p (i : Int) = some (Gt p i) := by
 unfold F8 Gt
 rw [lM hi, Option.bind_some, Q6, Option.bind_some]
 by_cases h1 : jH (p.aY.getD i default).Name.ba = false
 ·rw [if_pos h1, if_pos (by rw [h1]; rfl)]
 rw [if_neg h1, if_neg (by simpa using h1)]
 have hlt : (p.aY.take i).length = i := by rw [List.length_take]; omega
 rw [MH (p.aY.take i) (fun t => decide (t.Name = (p.aY.getD i default).Name)) (some 5) (if qI (p.aY.getD i default) = false then some 4 else some 0) (fun c j x hx hj => ?_) (fun c => ?_) (by omega)]
 ·by_cases h2 : ((p.aY.take i).any fun t => decide (t.Name = (p.aY.getD i default).Name)) = true
  ·rw [if_pos h2, if_pos h2]
  ·rw [if_neg h2, if_neg h2]; split <;> rfl
 ·simp only [Kv]
  rw [if_pos (by simp; omega), MG hx, Option.bind_some, lM hi, Option.bind_some, bZ (dR (by omega) (by omega))]
 ·simp only [Kv]
  rw [hlt, if_neg (by simp)]
  unfold SB
  rw [lM hi, Option.bind_some, Z4, Option.bind_some]
  cases qI (p.aY.getD i default) <;> rfl
theorem abk (l : Layout) (r : aV) (s : bL) : Ke l r s = some (zF l r s) := by
 unfold Ke zF
 rw [agH, Option.bind_some]
 by_cases h0 : (rU l r).2.2 = 0
 ·rw [if_neg (by simp [h0]), if_neg (by simp [h0]), Z4, Option.bind_some]
  have o := U9 h0
  cases hs : qI s with
  | false => rfl
  | true =>
   rw [if_neg (by simp), if_neg (by simp)]
   have hn := o.len; have hv := o.ov; have h2 := o.two
   have hT : ∀ x ∈ rJ r, gM l x = true := fun x hx => o.st x (List.mem_of_mem_take hx)
   have hl : (rJ r).length = ((r.Steps.length : Int) - r.Overlap).toNat := by unfold rJ; rw [List.length_take]; omega
   rw [MH (rJ r) (fun st => decide ((gV l st).Length < (if s.Length > 2 then s.Length else 2))) (some 12) (some 0) (fun c j x hx hj => ?_) (fun c => ?_) (by omega)]
   ·cases ((rJ r).any fun st => decide ((gV l st).Length < (if s.Length > 2 then s.Length else 2))) <;> rfl
   ·simp only [Kc]
    have hm : x ∈ rJ r := List.mem_of_getElem? (by rw [kC] at hx; exact hx)
    rw [bZ (dR (by omega) (by omega)), if_pos (by simp; omega), MG hx, Option.bind_some, (CO o.v (hT x hm)).1, Option.bind_some, bZ (dR (by omega) (by omega))]
   ·simp only [Kc]
    rw [bZ (dR (by omega) (by omega)), if_neg (by simp; omega)]
    rfl
 ·rw [if_pos (by simp [h0]), if_pos h0]
theorem Tg {l : Layout} {r : aV} (o : pF l r) : Cw r = some (oz r) := by
 unfold Cw; rw [ZY o, Option.bind_some]; rfl
theorem Tm {l : Layout} {r : aV} (o : pF l r) : Cx r = some (kX r) := by
 have := o.len; have := o.ov
 unfold Cx
 rw [bZ (dR (by omega) (by omega)), bZ (dR (by omega) (by omega)), Z5 o, Option.bind_some]; rfl
theorem aaF (a1 a2 e1 e2 bn la m1 m2 : Bool) : (((!(a1 && a2)) || (!(if (!(!(a1 && a2))) = true then (e1 && e2) else default))) || (!(if (!((!(a1 && a2)) || (!(if (!(!(a1 && a2))) = true then (e1 && e2) else default)))) = true then bn else default)) || (la && (m1 || m2)))
  = !(a1 && a2 && e1 && e2 && bn && !(la && (m1 || m2))) := by
 cases a1 <;> cases a2 <;> cases e1 <;> cases e2 <;> cases bn <;> cases la <;> cases m1 <;> cases m2 <;> rfl
theorem agV {l : Layout} {p : Plan} (o : RvOk l p) (x : Line) (hs : 0 ≤ x.bL ∧ x.bL < (p.aY.length : Int)) (hx : x.bq.length ≤ 12) :
  iter (F3 x p l) FUEL 0 = errs (fun k => some (qc l p x k)) (some 0) x.bq.length 0 := by
 have hp := o.per; have hz := o.sz.ro
 refine ae0 _ _ _ (fun c k hk Jd => ?_) (fun c => ?_) (by omega)
 ·simp only [F3]
  rw [if_pos (by simp; omega), lM hk, Option.bind_some, show x.bq.getD k default = iJ x k from rfl, bZ (dR (by omega) (by omega)), bZ (dR (by omega) (by omega)), wK, Option.bind_some,
   bZ (by simp [bP]; omega), wK, qK, Option.bind_some, OX o, qK, Option.bind_some, aaF]
  have e : (decide ((k : Int) = (x.bq.length : Int) - 1)) = decide (k + 1 = x.bq.length) := by
   rw [Bool.eq_iff_iff]; simp only [decide_eq_true_eq]; omega
  rw [e]
  rw [show (decide (0 ≤ (iJ x k).aV) && decide ((iJ x k).aV < (p.Routes.length : Int)) && decide (0 ≤ (iJ x k).Extra) && decide ((iJ x k).Extra < p.dW) && kN p (iJ x k).Min (iJ x k).Max && !(decide (k + 1 = x.bq.length) && (decide ((iJ x k).Min ≠ 0) || decide ((iJ x k).Max ≠ 0)))) = oq p x k (iJ x k) from rfl]
  unfold qc
  cases hb : oq p x k (iJ x k) with
  | false => rw [Bool.not_false, if_pos rfl, if_pos rfl]; exact nG (by decide)
  | true =>
   obtain ⟨r0, r1⟩ := SF hb
   have hR := Aa o r0 r1
   rw [Bool.not_true, if_neg (by simp), if_neg (by simp), hR.1, Option.bind_some, qD hs.1 hs.2, Option.bind_some, abk, Option.bind_some]
   by_cases f0 : zF l (gI p (iJ x k)) (p.aY.getD x.bL.toNat default) = 0
   ·rw [if_neg (by rw [f0]; simp), if_neg (fun h => h f0)]
    by_cases k0 : 0 < k
    ·have e1 : ((k : Int) - 1) = ((k - 1 : Nat) : Int) := by omega
     obtain ⟨q0, q1⟩ := Kz (Option.some.inj (Jd (k - 1) (by omega)))
     have hQ := Aa o q0 q1
     have g : decide (0 < (k : Int)) = true := by simp; omega
     rw [o9 g, Option.bind_some, if_pos g, bZ (dR (by omega) (by omega)), e1, lM (by omega), Option.bind_some, show x.bq.getD (k - 1) default = iJ x (k - 1) from rfl, hQ.1, Option.bind_some, Tg hR.2, Option.bind_some, Tm hQ.2, Option.bind_some, g, Bool.true_and]
     by_cases e : oz (gI p (iJ x k)) = kX (gI p (iJ x (k - 1)))
     ·rw [if_neg (by simp [e]), if_neg (by simp [e]), bZ (dR (by omega) (by omega))]; rfl
     ·rw [if_pos (by simpa using e), if_pos ⟨k0, e⟩]; exact nG (by decide)
    ·have g : decide (0 < (k : Int)) = false := by simp; omega
     rw [oC g, Option.bind_some, if_neg (by rw [g]; simp), if_neg (fun h => k0 h.1), bZ (dR (by omega) (by omega))]; rfl
   ·rw [if_pos (by simpa using f0), if_pos f0]; exact nG f0
 ·simp only [F3]
  rw [if_neg (by simp)]; rfl
theorem Xi {l : Layout} {p : Plan} (o : RvOk l p) (i : Nat) (hi : i < p.Lines.length) : F4 l p (i : Int) = vG l p i := by
 have hz := o.sz.li; have hst := o.sz.st
 have hr : (dA p i).bq.length ≤ 12 := o.sz.ri _ (pU hi)
 unfold F4 vG
 rw [lM hi, Option.bind_some, show p.Lines.getD i default = dA p i from rfl, Q6, Option.bind_some]
 by_cases h1 : jH (dA p i).Name.ba = false
 ·rw [if_pos h1, if_pos (by rw [h1]; rfl)]
 rw [if_neg h1, if_neg (by simpa using h1)]
 have hlt : (p.Lines.take i).length = i := by rw [List.length_take]; omega
 rw [MH (p.Lines.take i) (fun t => decide (t.Name = (dA p i).Name)) (some 5) (Nu p (dA p i) l ()) (fun c j x hx hj => ?_) (fun c => ?_) (by omega)]
 ·by_cases h2 : ((p.Lines.take i).any fun t => decide (t.Name = (dA p i).Name)) = true
  ·rw [if_pos h2, if_pos h2]
  rw [if_neg h2, if_neg h2]
  unfold Nu
  rw [bZ (dR (by omega) (by omega)), wK, Option.bind_some, show mJ (dA p i).Weight 0 1048576 = some (wB (dA p i).Weight) from rfl, qK, Option.bind_some]
  cases ha : (decide (0 ≤ (dA p i).bL) && decide ((dA p i).bL < (p.aY.length : Int))) with
  | false => rfl
  | true =>
   cases hw : wB (dA p i).Weight with
   | false => rfl
   | true =>
    simp only [Bool.and_eq_true, decide_eq_true_eq] at ha
    rw [if_neg (by simp), if_neg (show ¬ ((true && true) = false) by simp)]
    by_cases h0 : (dA p i).bq.length = 0
    ·rw [if_pos (by simp [h0]), if_pos h0]
    ·rw [if_neg (by simp; intro e; exact h0 (by rw [e]; rfl)), if_neg h0, agV o _ ha hr]
 ·simp only [Kt]
  rw [if_pos (by simp; omega), MG hx, Option.bind_some, bZ (dR (by omega) (by omega))]
 ·simp only [Kt]
  rw [hlt, if_neg (by simp)]
theorem SE {p : Plan} (z : Sz p) (i k : Int) : Am p i k = some (eF p i k) := by
 have hz := z.li
 unfold Am eF
 rw [bZ (dR (by omega) (by omega)), wK, Option.bind_some, show (decide (0 ≤ i) && decide (i < (p.Lines.length : Int))) = gK p i from rfl]
 cases h : gK p i with
 | false => rw [oC rfl, Option.bind_some]; rfl
 | true =>
  obtain ⟨a, b, _⟩ := xR h
  have hr : (dA p i.toNat).bq.length ≤ 12 := z.ri _ (pU b)
  rw [o9 rfl, a, Option.bind_some, if_pos rfl, bZ (dR (by omega) (by omega)), wK, Option.bind_some]
  rfl
theorem Ny {l : Layout} {p : Plan} (o : LnOk l p) {i k : Int} (h : eF p i k = true) : Al p i k = some (gI p (jl p i k)) ∧ pF l (gI p (jl p i k)) := by
 obtain ⟨a1, a2, a3, a4⟩ := Qb o h
 have := Aa o.toRvOk a3 a4
 unfold Al
 rw [a1, Option.bind_some, a2, Option.bind_some, this.1, Option.bind_some]
 exact ⟨rfl, this.2⟩
theorem ahB {l : Layout} {p : Plan} (o : RvOk l p) {r : aV} (hr : pF l r) {s : Step} (hs : s ∈ r.Steps) : -1 ≤ nR l s.Section := by
 have v := aae o.ck
 have h := hr.st s hs
 unfold gM at h
 simp only [Bool.and_eq_true, decide_eq_true_eq] at h
 exact (v.Zz _ (pU (by omega))).1
theorem aaK {l : Layout} {p : Plan} (o : LnOk l p) (x : Change) : FY l p x = some (Ia l p x) := by
 unfold FY Ia
 simp only [SE o.sz, OX o.toRvOk, show mJ x.Weight 0 1048576 = some (wB x.Weight) from rfl, qK, Option.bind_some]
 have hc : (((((!eF p x.dX x.fG) || (!(if (!(!eF p x.dX x.fG)) = true then eF p x.fK x.iN else default))) || decide (x.dX = x.fK)) ||
   (!(if (!(((!eF p x.dX x.fG) || (!(if (!(!eF p x.dX x.fG)) = true then eF p x.fK x.iN else default))) || decide (x.dX = x.fK))) = true then kN p x.Min x.Max else default))) ||
   (!(if (!((((!eF p x.dX x.fG) || (!(if (!(!eF p x.dX x.fG)) = true then eF p x.fK x.iN else default))) || decide (x.dX = x.fK)) ||
   (!(if (!(((!eF p x.dX x.fG) || (!(if (!(!eF p x.dX x.fG)) = true then eF p x.fK x.iN else default))) || decide (x.dX = x.fK))) = true then kN p x.Min x.Max else default)))) = true then wB x.Weight else default))) = !rV p x := by
  unfold rV
  cases eF p x.dX x.fG <;> cases eF p x.fK x.iN <;> cases decide (x.dX = x.fK) <;> cases kN p x.Min x.Max <;> cases wB x.Weight <;> rfl
 rw [hc]
 cases hb : rV p x with
 | false => rfl
 | true =>
  rw [Bool.not_true, if_neg (by simp), if_neg (by simp)]
  unfold rV at hb
  simp only [Bool.and_eq_true] at hb
  obtain ⟨a1, a2⟩ := Ny o hb.1.1.1.1
  obtain ⟨b1, b2⟩ := Ny o hb.1.1.1.2
  rw [a1, Option.bind_some, Tm a2, Option.bind_some, ZF a2, Option.bind_some, b1, Option.bind_some, Tg b2, Option.bind_some, ZE b2, Option.bind_some]
  have hge : -1 ≤ nR l (kX (gI p (jl p x.dX x.fG))) := ahB o.toRvOk a2 (pU (by have := a2.two; have := a2.ov; omega))
  rw [show (l.Sections.getD (kX (gI p (jl p x.dX x.fG))).toNat default).mE = nR l (kX (gI p (jl p x.dX x.fG))) from rfl,
   show (l.Sections.getD (oz (gI p (jl p x.fK x.iN))).toNat default).mE = nR l (oz (gI p (jl p x.fK x.iN))) from rfl]
  have e9 : decide (nR l (kX (gI p (jl p x.dX x.fG))) < 0) = decide (nR l (kX (gI p (jl p x.dX x.fG))) = -1) ∨ 0 ≤ nR l (kX (gI p (jl p x.dX x.fG))) := by
   by_cases h : 0 ≤ nR l (kX (gI p (jl p x.dX x.fG)))
   ·exact .inr h
   ·left; rw [Bool.eq_iff_iff]; simp only [decide_eq_true_eq]; omega
  by_cases e : nR l (kX (gI p (jl p x.dX x.fG))) = -1 ∨ nR l (kX (gI p (jl p x.dX x.fG))) ≠ nR l (oz (gI p (jl p x.fK x.iN)))
  ·rw [if_pos (by simp only [Bool.or_eq_true, decide_eq_true_eq]; omega), if_pos e]
  ·rw [if_neg (by simp only [Bool.or_eq_true, decide_eq_true_eq]; omega), if_neg e]
theorem ahM {l : Layout} {p : Plan} (o : LnOk l p) (i : Nat) (hi : i < p.Turns.length) : F9 p (i : Int) = some (Gy p i) := by
 have hz := o.sz.tu; have hli := o.sz.li
 unfold F9 Gy
 rw [lM hi, Option.bind_some]
 have hlt : (p.Turns.take i).length = i := by rw [List.length_take]; omega
 generalize p.Turns.getD i default = x
 unfold Od
 rw [bZ (dR (by omega) (by omega)), wK, Option.bind_some, bZ (by simp [bP]; omega), wK, qK, Option.bind_some, OX o.toRvOk, qK, Option.bind_some]
 rw [show (decide (0 ≤ x.From) && decide (x.From < (p.Lines.length : Int))) = gK p x.From from rfl, show (decide (0 ≤ x.To) && decide (x.To < (p.Lines.length : Int))) = gK p x.To from rfl]
 have hc : (((!gK p x.From) || (!(if (!(!gK p x.From)) = true then gK p x.To else default))) ||
   (!(if (!((!gK p x.From) || (!(if (!(!gK p x.From)) = true then gK p x.To else default)))) = true then kN p x.Min x.Max else default))) = !(gK p x.From && gK p x.To && kN p x.Min x.Max) := by
  cases gK p x.From <;> cases gK p x.To <;> cases kN p x.Min x.Max <;> rfl
 rw [hc]
 cases hb : (gK p x.From && gK p x.To && kN p x.Min x.Max) with
 | false => rfl
 | true =>
  rw [Bool.not_true, if_neg (by simp), if_neg (by simp)]
  simp only [Bool.and_eq_true] at hb
  obtain ⟨a1, a2, a3⟩ := xR hb.1.1
  obtain ⟨b1, b2, b3⟩ := xR hb.1.2
  obtain ⟨_, l1, l2⟩ := o.ln _ a2
  obtain ⟨_, m1, m2⟩ := o.ln _ b2
  have hr : (dA p x.From.toNat).bq.length ≤ 12 := o.sz.ri _ (pU a2)
  have hF : eF p x.From ((dA p x.From.toNat).bq.length - 1) = true := by
   unfold eF; rw [hb.1.1]; simp; omega
  have hT : eF p x.To 0 = true := by
   unfold eF; rw [hb.1.2]; simp; omega
  obtain ⟨q1, q2⟩ := Ny o hF
  obtain ⟨t1, t2⟩ := Ny o hT
  rw [MH (p.Turns.take i) (fun u => decide (u.From = x.From) || decide (u.To = x.To)) (some 5) (if kX (gI p (jl p x.From ((dA p x.From.toNat).bq.length - 1))) ≠ oz (gI p (jl p x.To 0)) ∨ (dA p x.From.toNat).bL ≠ (dA p x.To.toNat).bL then some 11 else some 0) (fun c j u hu hj => ?_) (fun c => ?_) (by omega)]
  ·by_cases h2 : ((p.Turns.take i).any fun u => decide (u.From = x.From) || decide (u.To = x.To)) = true
   ·rw [if_pos h2, if_pos h2]
   ·rw [if_neg h2, if_neg h2]; split <;> rfl
  ·simp only [Kw]
   rw [if_pos (by simp; omega), MG hu, Option.bind_some, qK, Option.bind_some, bZ (dR (by omega) (by omega))]
   cases h : decide (u.From = x.From) <;> rfl
  ·simp only [Kw]
   rw [hlt, if_neg (by simp)]
   unfold SC
   rw [a1, Option.bind_some, b1, Option.bind_some]
   simp only [Nw]
   rw [bZ (dR (by omega) (by omega)), q1, Option.bind_some, Tm q2, Option.bind_some, t1, Option.bind_some, Tg t2, Option.bind_some]
   by_cases e : kX (gI p (jl p x.From ((dA p x.From.toNat).bq.length - 1))) ≠ oz (gI p (jl p x.To 0)) ∨ (dA p x.From.toNat).bL ≠ (dA p x.To.toNat).bL
   ·rw [if_pos (by simpa using e), if_pos e]
   ·rw [if_neg (by simpa using e), if_neg e]
theorem abA (p : Plan) : Kr p = some (!decide (Sz p)) := by
 unfold Kr
 by_cases hc : ((((((8 < p.aY.length ∨ 48 < p.Routes.length) ∨ 16 < p.Lines.length) ∨ 32 < p.Changes.length) ∨ 32 < p.Turns.length) ∨ 32 < p.bT.length) ∨ 32 < p.bS.length)
 ·rw [if_pos (by simp only [Bool.or_eq_true, decide_eq_true_eq]; omega)]
  rw [decide_eq_false (fun z : Sz p => by have := z.st; have := z.ro; have := z.li; have := z.ch; have := z.tu; have := z.sy; have := z.de; omega)]; rfl
 ·rw [if_neg (by simp only [Bool.or_eq_true, decide_eq_true_eq]; omega)]
  have := jP (B := FZ p) (fun (_ : Unit) i => i) p.Lines (fun _ _ => True) (fun _ q => some (q.any fun x => decide (12 < x.bq.length))) ?_ ?_ FUEL () 0 trivial (by omega) (je (by omega))
  ·rw [this, List.drop_zero]
   congr 1
   by_cases hz : ∃ x ∈ p.Lines, 12 < x.bq.length
   ·rw [List.any_eq_true.2 (by simpa using hz)]
    obtain ⟨x, h1, h2⟩ := hz
    rw [decide_eq_false (fun z : Sz p => by have := z.ri x h1; omega)]; rfl
   ·have hz' : ∀ x ∈ p.Lines, x.bq.length ≤ 12 := fun x hx => by
     exact Nat.not_lt.1 (fun h => hz ⟨x, hx, h⟩)
    rw [List.any_eq_false.2 (fun x hx => by have := hz' x hx; simp; omega)]
    rw [decide_eq_true (show Sz p from ⟨by omega, by omega, by omega, by omega, by omega, by omega, by omega, hz'⟩)]; rfl
  ·intro c _ i x q _ hdr hi hx hk
   simp only [FZ]
   rw [if_pos (by simp; omega), hx, Option.bind_some]
   by_cases h12 : 12 < x.bq.length
   ·rw [if_pos (by simp; omega)]; simp [h12]
   ·rw [if_neg (by simp; omega), bZ (dR (by omega) (by omega)), hk () trivial]; simp [h12]
  ·intro c _ _
   simp only [FZ]
   rw [if_neg (by simp)]; rfl
theorem Ig {g : Option Int} {i : Nat} (h : i ≤ 1000000) (c : Option Int) : (g.bind fun y => if decide (y ≠ 0) then some y else bM (bP ((i : Int) + 1)) c) = g.bind fun e => if decide (e ≠ 0) then some e else c := by
 rw [bZ (dR (by omega) (by omega))]
theorem Vb (l : Layout) (p : Plan) : FI l p = tJ l p := by
 unfold FI tJ yN
 rw [Vf, Option.bind_some]
 by_cases h0 : jD (fD l) = 0
 ·rw [if_neg (by simp [h0]), abA, Option.bind_some]
  simp only [h0, ne_eq, not_true_eq_false, if_false]
  by_cases hz : Sz p
  ·rw [decide_eq_true hz, Bool.not_true, if_neg (by simp)]
   simp only [hz, not_true_eq_false, if_false]
   rw [show mJ p.dW 2 7200 = some (decide (2 ≤ p.dW) && decide (p.dW ≤ 7200)) from rfl, Option.bind_some]
   by_cases hp : p.dW < 2 ∨ 7200 < p.dW
   ·rw [if_pos (by simp; omega)]
    simp only [hp, if_true]
    rfl
   ·rw [if_neg (by simp; omega)]
    simp only [hp, if_false]
    rw [if_neg (by simp)]
    have s1 := hz.st; have s2 := hz.ro; have s3 := hz.li; have s4 := hz.ch; have s5 := hz.tu; have s6 := hz.sy; have s7 := hz.de
    rw [pW p.aY.length (fun i => F8 p (i : Int)) (Nl p l ()) (fun c i hi => by
     simp only [Kh]; rw [if_pos (by simp; omega), Ig (by omega)]) (fun c => by simp only [Kh]; rw [if_neg (by simp)]) (by omega)]
    refine rY _ _ (fun i _ hi _ => ahC p s1 i (by omega)) (fun _ => ?_)
    unfold Nl
    rw [pW p.Routes.length (fun i => (idx p.Routes (i : Int)).bind fun x => Ct l x) (Nn p l ()) (fun c i hi => by
     simp only [Ki]; rw [if_pos (by simp; omega), Option.bind_assoc, lM hi, Option.bind_some, Option.bind_some, Ig (by omega)]) (fun c => by simp only [Ki]; rw [if_neg (by simp)]) (by omega)]
    refine rY _ _ (fun i _ hi _ => by rw [lM (by omega), Option.bind_some, O4]; rfl) (fun hR => ?_)
    have o : RvOk l p := ⟨hz, by omega, h0, fun r hr => by
     obtain ⟨i, hi, rfl⟩ := List.getElem_of_mem hr
     have := hR i (by omega) (by omega)
     rw [lM hi, Option.bind_some, O4, getD_lt hi] at this
     exact Option.some.inj this⟩
    unfold Nn
    rw [pW p.Lines.length (fun i => F4 l p (i : Int)) (Np p l ()) (fun c i hi => by
     simp only [Kj]; rw [if_pos (by simp; omega), Ig (by omega)]) (fun c => by simp only [Kj]; rw [if_neg (by simp)]) (by omega)]
    refine rY _ _ (fun i _ hi _ => Xi o i (by omega)) (fun hL => ?_)
    have o' : LnOk l p := QY o (fun j a b => by rw [← Xi o j (by omega)]; exact hL j a b)
    unfold Np
    rw [pW p.Changes.length (fun i => (idx p.Changes (i : Int)).bind fun x => FY l p x) (Nq p l ()) (fun c i hi => by
     simp only [Kk]; rw [if_pos (by simp; omega), Option.bind_assoc, lM hi, Option.bind_some, Option.bind_some, Ig (by omega)]) (fun c => by simp only [Kk]; rw [if_neg (by simp)]) (by omega)]
    refine rY _ _ (fun i _ hi _ => by rw [lM (by omega), Option.bind_some, aaK o']; rfl) (fun _ => ?_)
    unfold Nq
    rw [pW p.Turns.length (fun i => F9 p (i : Int)) (Nr p l ()) (fun c i hi => by
     simp only [Kl]; rw [if_pos (by simp; omega), Ig (by omega)]) (fun c => by simp only [Kl]; rw [if_neg (by simp)]) (by omega)]
    refine rY _ _ (fun i _ hi _ => ahM o' i (by omega)) (fun _ => ?_)
    unfold Nr
    rw [pW p.bT.length (fun i => some (Gu p i)) (Ns p l ()) (fun c i hi => ?_) (fun c => by simp only [Km]; rw [if_neg (by simp)]) (by omega)]
    ·refine rY _ _ (fun i _ hi _ => rfl) (fun _ => ?_)
     unfold Ns
     rw [pW p.bS.length (fun i => some (Dp l p i)) (Sn ()) (fun c i hi => ?_) (fun c => by simp only [Ko]; rw [if_neg (by simp)]) (by omega)]
     ·rfl
     ·simp only [Ko]
      have hst := (Og h0).full.1
      rw [if_pos (by simp; omega), lM hi, Option.bind_some]
      unfold Dp
      generalize p.bS.getD i default = x
      unfold Mh
      rw [bZ (dR (by omega) (by omega)), wK, Option.bind_some, bZ (by simp [bP]; omega), wK, qK, Option.bind_some, show mJ x.Weight 1 1048576 = some (decide (1 ≤ x.Weight) && decide (x.Weight ≤ 1048576)) from rfl, qK, Option.bind_some, bZ (dR (by omega) (by omega))]
      cases decide (0 ≤ x.From) <;> cases decide (x.From < (l.aX.length : Int)) <;> cases decide (0 ≤ x.To) <;> cases decide (x.To < (l.aX.length : Int)) <;> cases decide (x.From = x.To) <;> cases decide (1 ≤ x.Weight) <;> cases decide (x.Weight ≤ 1048576) <;> rfl
    ·simp only [Km]
     have hp2 := o.per
     rw [if_pos (by simp; omega), lM hi, Option.bind_some]
     unfold Gu
     generalize p.bT.getD i default = x
     unfold N8
     rw [SE hz, Option.bind_some, SE hz, qK, Option.bind_some, bZ (by simp [bP]; omega), wK, qK, Option.bind_some, bZ (dR (by omega) (by omega))]
     cases eF p x.jA x.jc <;> cases eF p x.jF x.jh <;> cases decide (x.jA = x.jF) <;> cases decide (x.jc = x.jh) <;> cases decide (0 ≤ x.Offset) <;> cases decide (x.Offset < p.dW) <;> rfl
  ·rw [decide_eq_false hz, Bool.not_false, if_pos rfl]
   simp only [hz, not_false_eq_true, if_true]
   rfl
 ·rw [if_pos (by simpa using h0)]
  simp only [h0, ne_eq, not_false_eq_true, if_true]
  rfl
end Go.Proofs.YtcalibhfgdncaaaGreatDoor
namespace Go.Proofs.YtcalibhfgdncaaaGreatDoor
open Go.Dc
set_option maxRecDepth 10000
theorem bG {α β : Type} {o : Option α} {x : α} {K : α → Option β} {r : Option β} (h : o = some x) (h2 : K x = r) : o.bind K = r := by rw [h]; exact h2
def nI (v : Int) : Str := ⟨Lib.itoa v⟩
def XA : Str := ⟨[112, 101, 114, 105, 111, 100]⟩
def ZK : Str := ⟨[115, 116, 111, 99, 107]⟩
def NG : Str := ⟨[114, 111, 117, 116, 101]⟩
def Xl : Str := ⟨[108, 105, 110, 101]⟩
def JY : Str := ⟨[114, 105, 100, 101]⟩
def Va : Str := ⟨[99, 104, 97, 110, 103, 101]⟩
def tnW : Str := ⟨[116, 117, 114, 110]⟩
def Z8 : Str := ⟨[115, 121, 110, 99]⟩
def Vi : Str := ⟨[100, 101, 109, 97, 110, 100]⟩
def JG : Str := ⟨[111, 118, 101, 114, 108, 97, 112]⟩
def Gz : Str := ⟨[117, 112]⟩
def Dr : Str := ⟨[100, 111, 119, 110]⟩
def rng (lo hi : Int) : Str := ⟨Lib.itoa lo ++ [46, 46] ++ Lib.itoa hi⟩
def Ae (p : Plan) : List Str := [XA, nI p.dW]
def tY (s : bL) : List Str := [ZK, s.Name, nI s.Length, nI s.lI, nI s.lF, nI s.lG]
def wX (l : Layout) (s : Step) : Str := (l.Sections.getD s.Section.toNat default).Name
def tZ (l : Layout) (s : Step) : List Str := [wX l s, if s.Dir = 1 then Dr else Gz]
def wP (r : aV) : List Str := if r.Overlap ≠ 0 then [JG, nI r.Overlap] else []
def qH (l : Layout) (r : aV) : List Str := NG :: (r.Steps.flatMap (tZ l) ++ wP r)
def wM (p : Plan) (x : Line) : List Str := [Xl, x.Name, (p.aY.getD x.bL.toNat default).Name, nI x.Weight]
def oW (r : fV) : List Str := [JY, nI r.aV, nI r.Extra] ++ if r.Max ≠ 0 then [rng r.Min r.Max] else []
def sP (p : Plan) (i : Int) : Str := (p.Lines.getD i.toNat default).Name
def rW (p : Plan) (c : Change) : List Str := [Va, sP p c.dX, nI c.fG, sP p c.fK, nI c.iN, rng c.Min c.Max, nI c.Weight]
def uj (p : Plan) (t : Turn) : List Str := [tnW, sP p t.From, sP p t.To, rng t.Min t.Max]
def ug (p : Plan) (s : Sync) : List Str := [Z8, sP p s.jA, nI s.jc, sP p s.jF, nI s.jh, nI s.Offset]
def Lb (l : Layout) (i : Int) : Str := l.aX.getD i.toNat default
def uT (l : Layout) (d : oD) : List Str := [Vi, Lb l d.From, Lb l d.To, nI d.Weight]
def vJ (p : Plan) (x : Line) : List (List Str) := wM p x :: x.bq.map oW
/-! ### What a valid plan has -/
structure j4 (l : Layout) (p : Plan) : Prop extends LnOk l p where
 vn : zk l
 yO : ∀ s ∈ p.aY, jH s.Name.ba = true ∧ qI s = true
 DV : ∀ x ∈ p.Lines, jH x.Name.ba = true ∧ (0 ≤ x.bL ∧ x.bL < (p.aY.length : Int)) ∧ (0 ≤ x.Weight ∧ x.Weight ≤ 1048576) ∧ ∀ k, (h : k < x.bq.length) → oq p x k x.bq[k] = true
 Dn : ∀ c ∈ p.Changes, rV p c = true
 Gv : ∀ t ∈ p.Turns, (gK p t.From && gK p t.To && kN p t.Min t.Max) = true
 syn : ∀ s ∈ p.bT, (eF p s.jA s.jc && eF p s.jF s.jh && !(decide (s.jA = s.jF) && decide (s.jc = s.jh)) && decide (0 ≤ s.Offset) && decide (s.Offset < p.dW)) = true
 Dq : ∀ d ∈ p.bS, (decide (0 ≤ d.From) && decide (d.From < (l.aX.length : Int)) && decide (0 ≤ d.To) && decide (d.To < (l.aX.length : Int)) && !decide (d.From = d.To) && decide (1 ≤ d.Weight) && decide (d.Weight ≤ 1048576)) = true
theorem BX {α : Type} [Inhabited α] {xs : List α} {x : α} (h : x ∈ xs) : ∃ i, i < xs.length ∧ xs.getD i default = x := by
 obtain ⟨i, hi, rfl⟩ := List.getElem_of_mem h
 exact ⟨i, hi, getD_lt hi⟩
theorem XB {l : Layout} {p : Plan} (h : tJ l p = some 0) : j4 l p := by
 unfold tJ at h
 by_cases h0 : yN l p = 0
 ·rw [if_neg (by simp [h0])] at h
  obtain ⟨hz, hp, hc⟩ := Z9 h0
  obtain ⟨a1, h⟩ := zB _ _ h
  obtain ⟨a2, h⟩ := zB _ _ h
  obtain ⟨a3, h⟩ := zB _ _ h
  obtain ⟨a4, h⟩ := zB _ _ h
  obtain ⟨a5, h⟩ := zB _ _ h
  obtain ⟨a6, h⟩ := zB _ _ h
  obtain ⟨a7, _⟩ := zB _ _ h
  have o : RvOk l p := ⟨hz, hp, hc, fun r hr => by
   obtain ⟨i, hi, rfl⟩ := BX hr
   exact Option.some.inj (a2 i (by omega) (by omega))⟩
  have o' := QY o a3
  refine { toLnOk := o', vn := aae hc, yO := fun s hs => ?_, DV := fun x hx => ?_, Dn := fun c hc => ?_, Gv := fun t ht => ?_, syn := fun s hs => ?_, Dq := fun d hd => ?_ }
  ·obtain ⟨i, hi, rfl⟩ := BX hs
   have := Option.some.inj (a1 i (by omega) (by omega))
   unfold Gt at this
   split at this
   ·cases this
   split at this
   ·cases this
   split at this
   ·cases this
   rename_i b1 _ b2
   exact ⟨by simpa only [Bool.not_eq_false] using b1, by simpa only [Bool.not_eq_false] using b2⟩
  ·obtain ⟨i, hi, rfl⟩ := BX hx
   have := a3 i (by omega) (by omega)
   have hl := Xk this
   unfold vG at this
   split at this
   ·cases this
   split at this
   ·cases this
   split at this
   ·cases this
   rename_i b1 _ b2
   have b2' : (decide (0 ≤ (dA p i).bL) && decide ((dA p i).bL < (p.aY.length : Int)) && wB (dA p i).Weight) = true := by simpa only [Bool.not_eq_false] using b2
   unfold wB at b2'
   simp only [Bool.and_eq_true, decide_eq_true_eq] at b2'
   have b1' : jH (dA p i).Name.ba = true := by simpa only [Bool.not_eq_false] using b1
   refine ⟨b1', hl.1, b2'.2, fun k hk => ?_⟩
   have hr := hl.2.2 k hk
   unfold qc at hr
   split at hr
   ·cases hr
   rename_i c1
   have e : iJ (dA p i) k = (p.Lines.getD i default).bq[k] := getD_lt hk
   rw [e] at c1
   have c1' : oq p (dA p i) k (p.Lines.getD i default).bq[k] = true := by simpa only [Bool.not_eq_false] using c1
   exact c1'
  ·obtain ⟨i, hi, rfl⟩ := BX hc
   have := Option.some.inj (a4 i (by omega) (by omega))
   unfold Me Ia at this
   split at this
   ·cases this
   rename_i b1
   simpa only [Bool.not_eq_false] using b1
  ·obtain ⟨i, hi, rfl⟩ := BX ht
   have := Option.some.inj (a5 i (by omega) (by omega))
   unfold Gy Od at this
   split at this
   ·cases this
   rename_i b1
   simpa only [Bool.not_eq_false] using b1
  ·obtain ⟨i, hi, rfl⟩ := BX hs
   have := Option.some.inj (a6 i (by omega) (by omega))
   unfold Gu N8 at this
   split at this
   ·cases this
   rename_i b1
   simpa only [Bool.not_eq_false] using b1
  ·obtain ⟨i, hi, rfl⟩ := BX hd
   have := Option.some.inj (a7 i (by omega) (by omega))
   unfold Dp Mh at this
   split at this
   ·cases this
   rename_i b1
   simpa only [Bool.not_eq_false] using b1
 ·rw [if_pos (by simpa using h0)] at h
  exact absurd (Option.some.inj h) h0
/-! ### Words and lines -/
def nE (s : Str) : Prop := nS s = true ∧ s.l.length ≤ 46
def fJ (w : List Str) : Prop := 0 < w.length ∧ w.length ≤ 64 ∧ ∀ s ∈ w, nE s
theorem Bt {s : Str} (h : jH s.ba = true) : nE s := ⟨(JA h).1, by have := (JA h).2; omega⟩
theorem jq {v : Int} (h1 : -9223372036854775808 ≤ v) (h2 : v ≤ 9223372036854775807) : nE (nI v) := ⟨QS v, by have := BN v h1 h2; unfold nI; simp only; omega⟩
theorem Dz {lo hi : Int} (h1 : 0 ≤ lo ∧ lo ≤ hi ∧ hi ≤ 7200) : nE (rng lo hi) := by
 have a := QS lo; have b := QS hi
 have c := BN lo (by omega) (by omega); have d := BN hi (by omega) (by omega)
 unfold nS at a b
 simp only [Bool.and_eq_true, decide_eq_true_eq] at a b
 refine ⟨?_, by unfold rng; simp; omega⟩
 unfold nS rng
 simp only [Bool.and_eq_true, decide_eq_true_eq, List.all_append, a.2, b.2]
 exact ⟨by simp, by decide⟩
theorem qw : ∀ s ∈ ([] : List Str), nE s := fun s h => by cases h
theorem gq {s : Str} {w : List Str} (h : nE s) (hw : ∀ t ∈ w, nE t) : ∀ t ∈ s :: w, nE t := fun t ht => by
 rcases List.mem_cons.1 ht with e | e
 ·rw [e]; exact h
 ·exact hw t e
theorem abH {w : List Str} (h : fJ w) : Xj w := ⟨h.1, h.2.1, List.all_eq_true.2 fun s hs => (h.2.2 s hs).1⟩
theorem Py : ∀ {w : List Str}, (∀ s ∈ w, nE s) → vU w ≤ 47 * w.length
 | [], _ => by simp [vU]
 | s :: r, h => by
  have h1 := (h s List.mem_cons_self).2
  have h2 := Py (w := r) (fun t ht => h t (List.mem_cons_of_mem _ ht))
  rw [Oa]
  simp only [List.length_cons]; omega
theorem Px : ∀ {a : List (List Str)}, (∀ w ∈ a, fJ w) → yP a ≤ 3009 * a.length
 | [], _ => by simp [yP]
 | w :: r, h => by
  have h1 := h w List.mem_cons_self
  have h2 := Px (a := r) (fun t ht => h t (List.mem_cons_of_mem _ ht))
  have h3 := Py h1.2.2
  have h4 := h1.2.1
  rw [N9]
  simp only [List.length_cons]; omega
theorem abF {a : List (List Str)} (h : ∀ w ∈ a, fJ w) (hl : a.length ≤ 10000) : AP a = some ⟨nZ a⟩ := by
 have h1 := Px h
 rw [ae5 a (by omega), WX a [] (fun w hw => abH (h w hw))]
 rfl
theorem aad : nE Gz := ⟨by decide, by decide⟩
theorem Vj : nE Dr := ⟨by decide, by decide⟩
theorem ZC {l : Layout} (v : zk l) {s : Step} (h : gM l s = true) : nE (wX l s) := by
 unfold gM at h
 simp only [Bool.and_eq_true, decide_eq_true_eq] at h
 have := v.ZA _ (pU (xs := l.Sections) (i := s.Section.toNat) (by omega))
 exact ⟨this.1, by unfold wX; omega⟩
theorem Z0 {l : Layout} (v : zk l) : ∀ {ss : List Step}, (∀ s ∈ ss, gM l s = true) → (∀ t ∈ ss.flatMap (tZ l), nE t) ∧ (ss.flatMap (tZ l)).length = 2 * ss.length
 | [], _ => ⟨qw, rfl⟩
 | s :: r, h => by
  have ih := Z0 v (ss := r) (fun t ht => h t (List.mem_cons_of_mem _ ht))
  have e : (s :: r).flatMap (tZ l) = wX l s :: (if s.Dir = 1 then Dr else Gz) :: r.flatMap (tZ l) := rfl
  rw [e]
  refine ⟨gq (ZC v (h s List.mem_cons_self)) (gq ?_ ih.1), by simp only [List.length_cons, ih.2]; omega⟩
  split
  ·exact Vj
  ·exact aad
theorem NH {l : Layout} (v : zk l) {r : aV} (o : pF l r) : fJ (qH l r) := by
 have h := Z0 v o.st
 have hn := o.len; have hv := o.ov
 have ho : (∀ t ∈ wP r, nE t) ∧ (wP r).length ≤ 2 := by
  unfold wP
  split
  ·exact ⟨gq ⟨by decide, by decide⟩ (gq (jq (by omega) (by omega)) qw), by simp⟩
  ·exact ⟨qw, by simp⟩
 unfold qH
 refine ⟨by simp, by simp only [List.length_cons, List.length_append]; omega, gq ⟨by decide, by decide⟩ fun t ht => ?_⟩
 rcases List.mem_append.1 ht with e | e
 ·exact h.1 t e
 ·exact ho.1 t e
theorem Tk {s : bL} (h : qI s = true) : (1 ≤ s.Length ∧ s.Length ≤ 40) ∧ (1000 ≤ s.lI ∧ s.lI ≤ 100000) ∧ (100 ≤ s.lF ∧ s.lF ≤ 2000) ∧ (100 ≤ s.lG ∧ s.lG ≤ 2000) := by
 unfold qI at h
 simp only [Bool.and_eq_true, decide_eq_true_eq] at h
 omega
theorem Dk {p : Plan} {lo hi : Int} (h : kN p lo hi = true) : 0 ≤ lo ∧ lo ≤ hi ∧ hi ≤ 7200 := by
 unfold kN at h
 simp only [Bool.and_eq_true, decide_eq_true_eq] at h
 omega
theorem uF {l : Layout} {p : Plan} (o : j4 l p) {i : Int} (h : gK p i = true) : nE (sP p i) := by
 obtain ⟨_, b, _⟩ := xR h
 exact Bt (o.DV _ (pU b)).1
theorem uw {l : Layout} {p : Plan} (o : j4 l p) {i k : Int} (h : eF p i k = true) : gK p i = true ∧ 0 ≤ k ∧ k ≤ 12 := by
 unfold eF at h
 simp only [Bool.and_eq_true, decide_eq_true_eq] at h
 obtain ⟨_, b, _⟩ := xR h.1.1
 have := o.sz.ri _ (pU b)
 unfold dA at h
 exact ⟨h.1.1, h.1.2, by omega⟩
theorem Ta {s : bL} (h : jH s.Name.ba = true ∧ qI s = true) : fJ (tY s) := by
 have := Tk h.2
 exact ⟨by simp [tY], by simp [tY], gq ⟨by decide, by decide⟩ (gq (Bt h.1) (gq (jq (by omega) (by omega)) (gq (jq (by omega) (by omega)) (gq (jq (by omega) (by omega)) (gq (jq (by omega) (by omega)) qw)))))⟩
theorem QZ {l : Layout} {p : Plan} (o : j4 l p) {x : Line} (hx : x ∈ p.Lines) : fJ (wM p x) := by
 obtain ⟨h1, h2, h3, _⟩ := o.DV x hx
 exact ⟨by simp [wM], by simp [wM], gq ⟨by decide, by decide⟩ (gq (Bt h1) (gq (Bt (o.yO _ (pU (by omega))).1) (gq (jq (by omega) (by omega)) qw)))⟩
theorem agT {p : Plan} {x : Line} {k : Nat} {r : fV} (h : oq p x k r = true) : (0 ≤ r.aV ∧ r.aV < (p.Routes.length : Int)) ∧ (0 ≤ r.Extra ∧ r.Extra < p.dW) ∧ (0 ≤ r.Min ∧ r.Min ≤ r.Max ∧ r.Max ≤ 7200) := by
 unfold oq at h
 simp only [Bool.and_eq_true, decide_eq_true_eq] at h
 exact ⟨⟨h.1.1.1.1.1, h.1.1.1.1.2⟩, ⟨h.1.1.1.2, h.1.1.2⟩, Dk h.1.2⟩
theorem SG {l : Layout} {p : Plan} (o : j4 l p) {x : Line} (hx : x ∈ p.Lines) {r : fV} (hr : r ∈ x.bq) : (0 ≤ r.aV ∧ r.aV < (p.Routes.length : Int)) ∧ (0 ≤ r.Extra ∧ r.Extra < p.dW) ∧ (0 ≤ r.Min ∧ r.Min ≤ r.Max ∧ r.Max ≤ 7200) := by
 obtain ⟨_, _, _, h⟩ := o.DV x hx
 obtain ⟨k, hk, rfl⟩ := List.getElem_of_mem hr
 exact agT (h k hk)
theorem RJ {l : Layout} {p : Plan} (o : j4 l p) {x : Line} (hx : x ∈ p.Lines) {r : fV} (hr : r ∈ x.bq) : fJ (oW r) := by
 have h := SG o hx hr
 have hp := o.per; have hz := o.sz.ro
 unfold oW
 split
 ·exact ⟨by simp, by simp, gq ⟨by decide, by decide⟩ (gq (jq (by omega) (by omega)) (gq (jq (by omega) (by omega)) (gq (Dz h.2.2) qw)))⟩
 ·exact ⟨by simp, by simp, gq ⟨by decide, by decide⟩ (gq (jq (by omega) (by omega)) (gq (jq (by omega) (by omega)) qw))⟩
theorem O1 {l : Layout} {p : Plan} (o : j4 l p) {c : Change} (h : rV p c = true) : (eF p c.dX c.fG = true ∧ eF p c.fK c.iN = true) ∧ (0 ≤ c.Min ∧ c.Min ≤ c.Max ∧ c.Max ≤ 7200) ∧ 0 ≤ c.Weight ∧ c.Weight ≤ 1048576 := by
 unfold rV wB at h
 simp only [Bool.and_eq_true, decide_eq_true_eq] at h
 exact ⟨⟨h.1.1.1.1, h.1.1.1.2⟩, Dk h.1.2, h.2⟩
theorem OZ {l : Layout} {p : Plan} (o : j4 l p) {c : Change} (h : rV p c = true) : fJ (rW p c) := by
 obtain ⟨⟨a, b⟩, hb, w⟩ := O1 o h
 have a' := uw o a; have b' := uw o b
 exact ⟨by simp [rW], by simp [rW], gq ⟨by decide, by decide⟩ (gq (uF o a'.1) (gq (jq (by omega) (by omega)) (gq (uF o b'.1) (gq (jq (by omega) (by omega)) (gq (Dz hb) (gq (jq (by omega) (by omega)) qw))))))⟩
theorem Tw {l : Layout} {p : Plan} (o : j4 l p) {t : Turn} (h : (gK p t.From && gK p t.To && kN p t.Min t.Max) = true) : fJ (uj p t) := by
 simp only [Bool.and_eq_true] at h
 exact ⟨by simp [uj], by simp [uj], gq ⟨by decide, by decide⟩ (gq (uF o h.1.1) (gq (uF o h.1.2) (gq (Dz (Dk h.2)) qw)))⟩
theorem Tv {l : Layout} {p : Plan} (o : j4 l p) {s : Sync} (h : (eF p s.jA s.jc && eF p s.jF s.jh && !(decide (s.jA = s.jF) && decide (s.jc = s.jh)) && decide (0 ≤ s.Offset) && decide (s.Offset < p.dW)) = true) : fJ (ug p s) := by
 simp only [Bool.and_eq_true, decide_eq_true_eq] at h
 have a' := uw o h.1.1.1.1; have b' := uw o h.1.1.1.2
 have hp := o.per
 exact ⟨by simp [ug], by simp [ug], gq ⟨by decide, by decide⟩ (gq (uF o a'.1) (gq (jq (by omega) (by omega)) (gq (uF o b'.1) (gq (jq (by omega) (by omega)) (gq (jq (by omega) (by omega)) qw)))))⟩
theorem NY {l : Layout} (v : zk l) {i : Int} (h : 0 ≤ i ∧ i < (l.aX.length : Int)) : nE (Lb l i) := by
 have := v.Z7 _ (pU (xs := l.aX) (i := i.toNat) (by omega))
 exact ⟨this.1, by unfold Lb; omega⟩
theorem Ic {l : Layout} {d : oD} (h : (decide (0 ≤ d.From) && decide (d.From < (l.aX.length : Int)) && decide (0 ≤ d.To) && decide (d.To < (l.aX.length : Int)) && !decide (d.From = d.To) && decide (1 ≤ d.Weight) && decide (d.Weight ≤ 1048576)) = true) :
  (0 ≤ d.From ∧ d.From < (l.aX.length : Int)) ∧ (0 ≤ d.To ∧ d.To < (l.aX.length : Int)) ∧ 1 ≤ d.Weight ∧ d.Weight ≤ 1048576 := by
 simp only [Bool.and_eq_true, decide_eq_true_eq] at h
 exact ⟨⟨h.1.1.1.1.1.1, h.1.1.1.1.1.2⟩, ⟨h.1.1.1.1.2, h.1.1.1.2⟩, h.1.2, h.2⟩
theorem Ph {l : Layout} (v : zk l) {d : oD} (h : (0 ≤ d.From ∧ d.From < (l.aX.length : Int)) ∧ (0 ≤ d.To ∧ d.To < (l.aX.length : Int)) ∧ 1 ≤ d.Weight ∧ d.Weight ≤ 1048576) : fJ (uT l d) :=
 ⟨by simp [uT], by simp [uT], gq ⟨by decide, by decide⟩ (gq (NY v h.1) (gq (NY v h.2.1) (gq (jq (by omega) (by omega)) qw)))⟩
/-! ### Loops that write lines -/
theorem ae3 {α σ β : Type} {B : ((σ × Nat) → Option β) → (σ × Nat) → Option β} (rep : List (List Str) → σ) (xs : List α) (f : α → List (List Str)) (K : σ → Option β) (m : Nat)
  (hs : ∀ c q (i : Nat) x, idx xs (i : Int) = some x → x ∈ xs → i < xs.length → q.length + m ≤ 2000 → (∀ w ∈ q, fJ w) → B c (rep q, i) = c (rep (q ++ f x), i + 1))
  (he : ∀ c q, q.length ≤ 2000 → (∀ w ∈ q, fJ w) → B c (rep q, xs.length) = K (rep q)) (hf : ∀ x ∈ xs, (f x).length ≤ m ∧ ∀ w ∈ f x, fJ w) :
  ∀ n q i, q.length + m * (xs.length - i) ≤ 2000 → (∀ w ∈ q, fJ w) → i ≤ xs.length → xs.length - i < n → iter B n (rep q, i) = K (rep (q ++ (xs.drop i).flatMap f)) := by
 intro n
 induction n with
 | zero => intro q i _ _ _ h; omega
 | succ n ih =>
  intro q i hq hg hi hn
  show B (iter B n) (rep q, i) = _
  by_cases hl : i = xs.length
  ·subst hl
   rw [he _ q (by omega) hg, List.drop_length]; simp
  ·have hlt : i < xs.length := by omega
   have hd : xs.drop i = xs[i] :: xs.drop (i + 1) := List.drop_eq_getElem_cons hlt
   have hm := List.getElem_mem hlt
   have h1 := hf _ hm
   have hmul : m * (xs.length - i) = m * (xs.length - (i + 1)) + m := by
    rw [show xs.length - i = (xs.length - (i + 1)) + 1 by omega, Nat.mul_succ]
   rw [hs _ q i xs[i] (by simp [idx, hlt]) hm hlt (by omega) hg, ih (q ++ f xs[i]) (i + 1) (by rw [List.length_append]; omega) (fun w hw => by
    rcases List.mem_append.1 hw with e | e
    ·exact hg w e
    ·exact h1.2 w e) (by omega) (by omega), hd]
   simp only [List.flatMap_cons, List.append_assoc]
theorem pY {α σ β : Type} {B : ((σ × Nat) → Option β) → (σ × Nat) → Option β} (rep : List (List Str) → σ) (xs : List α) (f : α → List (List Str)) (K : σ → Option β) (m : Nat)
  (hs : ∀ c q (i : Nat) x, idx xs (i : Int) = some x → x ∈ xs → i < xs.length → q.length + m ≤ 2000 → (∀ w ∈ q, fJ w) → B c (rep q, i) = c (rep (q ++ f x), i + 1))
  (he : ∀ c q, q.length ≤ 2000 → (∀ w ∈ q, fJ w) → B c (rep q, xs.length) = K (rep q)) (hf : ∀ x ∈ xs, (f x).length ≤ m ∧ ∀ w ∈ f x, fJ w)
  (q : List (List Str)) (hq : q.length + m * xs.length ≤ 2000) (hg : ∀ w ∈ q, fJ w) (hl : xs.length ≤ 1000000) : iter B FUEL (rep q, 0) = K (rep (q ++ xs.flatMap f)) := by
 have := ae3 rep xs f K m hs he hf FUEL q 0 (by simpa using hq) hg (by omega) (je (by omega))
 rwa [List.drop_zero] at this
end Go.Proofs.YtcalibhfgdncaaaGreatDoor
namespace Go.Proofs.YtcalibhfgdncaaaGreatDoor
open Go.Dc
set_option maxRecDepth 10000
def zl (a : Any) : Str := match a with | .s x => x | .i n => nI n
def A8 (a : Any) : Prop := match a with | .s _ => True | .i n => -9223372036854775808 ≤ n ∧ n ≤ 9223372036854775807
theorem MI (v : Int) (h1 : -9223372036854775808 ≤ v) (h2 : v ≤ 9223372036854775807) : AL v = some (nI v) := by
 unfold AL
 rw [if_pos ⟨h1, h2⟩]; rfl
theorem ahP (ps : List Any) (h : ∀ a ∈ ps, A8 a) (hl : ps.length ≤ 1000) : JV ps = some (ps.map zl) := by
 unfold JV
 have := jP (B := EH ps) (fun (q : List Str) i => (q, i)) ps (fun q i => q.length ≤ i) (fun q r => some (q ++ r.map zl)) ?_ ?_ FUEL [] 0 (by simp) (by omega) (je (by omega))
 ·simpa using this
 ·intro c q i x r hq hdr hi hx hk
  have hm := h x (List.mem_of_getElem? (by rw [kC] at hx; exact hx))
  have hc : ∀ w : Str, bM (decide ((q.length + ([w] : List Str).length) * 16 ≤ 140737488355328)) (EI c i (q ++ [w])) = some (q ++ [w] ++ r.map zl) := fun w => by
   rw [bZ (by simp; omega)]
   exact hk _ (by simp; omega)
  simp only [EH]
  rw [if_pos (by simp; omega), hx, Option.bind_some]
  cases x with
  | s t =>
   rw [if_pos (show (Any.s t).gM = true from rfl), show (Any.s t).str = t from rfl, hc]
   simp [zl]
  | i n =>
   rw [if_neg (by simp [Any.gM]), if_pos (show (Any.i n).BM = true from rfl), show (Any.i n).int = n from rfl, MI n hm.1 hm.2, Option.bind_some, hc]
   simp [zl]
 ·intro c q _
  simp only [EH]
  rw [if_neg (by simp)]
  simp [Rp]
theorem xA (q : List (List Str)) (ps : List Any) (h : ∀ a ∈ ps, A8 a) (hl : ps.length ≤ 1000) (hq : q.length ≤ 3000) : tK (jg.mk q) ps = some (q ++ [ps.map zl]) := by
 unfold tK
 rw [ahP ps h hl, Option.bind_some, bZ (by simp; omega)]
theorem aS {s : Str} {r : List Any} (h : ∀ a ∈ r, A8 a) : ∀ a ∈ Any.s s :: r, A8 a := fun a ha => by
 rcases List.mem_cons.1 ha with e | e
 ·rw [e]; trivial
 ·exact h a e
theorem aI {n : Int} {r : List Any} (h0 : -9223372036854775808 ≤ n ∧ n ≤ 9223372036854775807) (h : ∀ a ∈ r, A8 a) : ∀ a ∈ Any.i n :: r, A8 a := fun a ha => by
 rcases List.mem_cons.1 ha with e | e
 ·rw [e]; exact h0
 ·exact h a e
theorem aN : ∀ a ∈ ([] : List Any), A8 a := fun a h => by cases h
theorem Te {lo hi : Int} (h1 : 0 ≤ lo ∧ lo ≤ hi ∧ hi ≤ 7200) : Ch lo hi = some (rng lo hi) := by
 have c := BN lo (by omega) (by omega); have d := BN hi (by omega) (by omega)
 unfold Ch
 rw [MI _ (by omega) (by omega), Option.bind_some, MI _ (by omega) (by omega)]
 unfold nI
 rw [H8 _ _ (by simp; omega), Option.bind_some, Option.bind_some, H8 _ _ (by simp; omega)]
 rfl
theorem aat {l : Layout} {r : aV} (o : pF l r) (q : List (List Str)) (hq : q.length ≤ 3000) : JW (jg.mk q) l r = some (q ++ [qH l r]) := by
 have hn := o.len; have hv := o.ov
 unfold JW
 have := jP (B := EJ r l (jg.mk q)) (fun (s : List Str) i => (s, i)) r.Steps (fun s i => s.length ≤ 1 + 2 * i)
  (fun s t => some (q ++ [s ++ t.flatMap (tZ l) ++ wP r])) ?_ ?_ FUEL [NG] 0 (by simp) (by omega) (je (by omega))
 ·rw [List.drop_zero] at this
  exact this.trans (by simp [qH])
 ·intro c s i x t hs hdr hi hx hk
  have hm : x ∈ r.Steps := List.mem_of_getElem? (by rw [kC] at hx; exact hx)
  have hk2 : ∀ w : Str, EK l x s c i w = some (q ++ [(s ++ [wX l x, w]) ++ t.flatMap (tZ l) ++ wP r]) := fun w => by
   unfold EK
   rw [NJ o hm, Option.bind_some, bZ (by simp; omega)]
   exact hk _ (by simp; omega)
  simp only [EJ]
  rw [if_pos (by simp; omega), hx, Option.bind_some]
  by_cases hd : x.Dir = 1
  ·rw [if_pos (by simpa using hd), hk2]
   simp [tZ, hd, Dr]
  ·rw [if_neg (by simpa using hd), hk2]
   simp [tZ, hd, Gz]
 ·intro c s hs
  simp only [EJ]
  rw [if_neg (by simp)]
  unfold Rq wP
  by_cases h0 : r.Overlap = 0
  ·rw [if_neg (by simpa using h0), if_neg (fun h => h h0)]
   unfold EL
   rw [bZ (by simp; omega)]
   simp
  ·rw [if_pos (by simpa using h0), if_pos h0, MI _ (by omega) (by omega), Option.bind_some, bZ (by simp; omega)]
   unfold EL
   rw [bZ (by simp; omega)]
   simp [JG]
def Iu (l : Layout) (p : Plan) : List (List Str) :=
 [Ae p] ++ p.aY.flatMap (fun s => [tY s]) ++ p.Routes.flatMap (fun r => [qH l r]) ++ p.Lines.flatMap (vJ p) ++ p.Changes.flatMap (fun c => [rW p c]) ++ p.Turns.flatMap (fun t => [uj p t])
  ++ p.bT.flatMap (fun s => [ug p s]) ++ p.bS.flatMap (fun d => [uT l d])
theorem mh {w : List Str} (h : fJ w) : ([w] : List (List Str)).length ≤ 1 ∧ ∀ v ∈ ([w] : List (List Str)), fJ v := ⟨by simp, fun v hv => by rw [List.mem_singleton.1 hv]; exact h⟩
theorem xC {a b : List (List Str)} (ha : ∀ w ∈ a, fJ w) (hb : ∀ w ∈ b, fJ w) : ∀ w ∈ a ++ b, fJ w := fun w hw => by
 rcases List.mem_append.1 hw with e | e
 ·exact ha w e
 ·exact hb w e
theorem Br {α : Type} {xs : List α} {f : α → List (List Str)} (h : ∀ x ∈ xs, ∀ w ∈ f x, fJ w) : ∀ w ∈ xs.flatMap f, fJ w := fun w hw => by
 obtain ⟨x, hx, hw⟩ := List.mem_flatMap.1 hw
 exact h x hx w hw
theorem nu {α : Type} {f : α → List (List Str)} {m : Nat} : ∀ {xs : List α}, (∀ x ∈ xs, (f x).length ≤ m) → (xs.flatMap f).length ≤ m * xs.length
 | [], _ => by simp
 | x :: r, h => by
  have h1 := h x List.mem_cons_self
  have h2 := nu (f := f) (xs := r) (fun y hy => h y (List.mem_cons_of_mem _ hy))
  simp only [List.flatMap_cons, List.length_append, List.length_cons, Nat.mul_succ]
  omega
theorem afW {l : Layout} {p : Plan} (o : j4 l p) : fJ (Ae p) := by
 have := o.per
 exact ⟨by simp [Ae], by simp [Ae], gq ⟨by decide, by decide⟩ (gq (jq (by omega) (by omega)) qw)⟩
theorem DW {l : Layout} {p : Plan} (o : j4 l p) {x : Line} (hx : x ∈ p.Lines) : (vJ p x).length ≤ 13 ∧ ∀ w ∈ vJ p x, fJ w := by
 have := o.sz.ri x hx
 unfold vJ
 refine ⟨by simp; omega, fun w hw => ?_⟩
 rcases List.mem_cons.1 hw with e | e
 ·rw [e]; exact QZ o hx
 ·obtain ⟨r, hr, rfl⟩ := List.mem_map.1 e
  exact RJ o hx hr
theorem Vz {l : Layout} {p : Plan} (o : j4 l p) : (∀ w ∈ Iu l p, fJ w) ∧ (Iu l p).length ≤ 1000 := by
 have z := o.sz
 refine ⟨xC (xC (xC (xC (xC (xC (xC (mh (afW o)).2 (Br fun s hs => (mh (Ta (o.yO s hs))).2)) (Br fun r hr => (mh (NH o.vn (wW (o.rt r hr)))).2))
  (Br fun x hx => (DW o hx).2)) (Br fun c hc => (mh (OZ o (o.Dn c hc))).2)) (Br fun t ht => (mh (Tw o (o.Gv t ht))).2)) (Br fun s hs => (mh (Tv o (o.syn s hs))).2))
  (Br fun d hd => (mh (Ph o.vn (Ic (o.Dq d hd)))).2), ?_⟩
 have h1 := nu (f := fun s => [tY s]) (m := 1) (xs := p.aY) (fun _ _ => by simp)
 have h2 := nu (f := fun r => [qH l r]) (m := 1) (xs := p.Routes) (fun _ _ => by simp)
 have h3 := nu (f := vJ p) (m := 13) (xs := p.Lines) (fun x hx => (DW o hx).1)
 have h4 := nu (f := fun c => [rW p c]) (m := 1) (xs := p.Changes) (fun _ _ => by simp)
 have h5 := nu (f := fun t => [uj p t]) (m := 1) (xs := p.Turns) (fun _ _ => by simp)
 have h6 := nu (f := fun s => [ug p s]) (m := 1) (xs := p.bT) (fun _ _ => by simp)
 have h7 := nu (f := fun d => [uT l d]) (m := 1) (xs := p.bS) (fun _ _ => by simp)
 have := z.st; have := z.ro; have := z.li; have := z.ch; have := z.tu; have := z.sy; have := z.de
 simp only [Iu, List.length_append, List.length_singleton]
 omega
theorem afu {α : Type} {xs : List α} {i : Nat} {x : α} (h : idx xs (i : Int) = some x) : x ∈ xs := List.mem_of_getElem? (by rw [kC] at h; exact h)
theorem uE {p : Plan} {i : Int} (h : gK p i = true) : idx p.Lines i = some (p.Lines.getD i.toNat default) := (xR h).1
theorem NW {l : Layout} {i : Int} (h : 0 ≤ i ∧ i < (l.aX.length : Int)) : idx l.aX i = some (Lb l i) := qD h.1 h.2
theorem abx {l : Layout} {p : Plan} (o : j4 l p) (q : List (List Str)) (hq : q.length ≤ 1000) (hg : ∀ w ∈ q, fJ w) : Es p l q () = (AP (q ++ p.bS.flatMap fun d => [uT l d])).bind fun y => some (y, 0) := by
 have z := o.sz.de
 unfold Es
 refine pY (B := Ej p l) id p.bS (fun d => [uT l d]) (fun s => (AP s).bind fun y => some (y, 0)) 1 (fun c q i x hx hm hi hq _ => ?_) (fun c q _ _ => ?_) (fun d hd => mh (Ph o.vn (Ic (o.Dq d hd)))) q (by omega) hg (by omega)
 ·have h := Ic (o.Dq x hm)
  simp only [Ej, id]
  refine (if_pos (by simp; omega)).trans (bG hx (bG (NW h.1) (bG (NW h.2.1) (bG (xA q _ (aS (aS (aS (aI (by omega) aN)))) (by simp) (by omega)) ?_))))
  rfl
 ·simp only [Ej, id]
  rw [if_neg (by simp)]; rfl
theorem abw {l : Layout} {p : Plan} (o : j4 l p) (q : List (List Str)) (hq : q.length ≤ 900) (hg : ∀ w ∈ q, fJ w) : Er p l q () = Es p l (q ++ p.bT.flatMap fun s => [ug p s]) () := by
 have z := o.sz.sy
 unfold Er
 refine pY (B := Ei p l) id p.bT (fun s => [ug p s]) (fun s => Es p l s ()) 1 (fun c q i x hx hm hi hq _ => ?_) (fun c q _ _ => ?_) (fun s hs => mh (Tv o (o.syn s hs))) q (by omega) hg (by omega)
 ·have h := o.syn x hm
  have hp := o.per
  simp only [Bool.and_eq_true, decide_eq_true_eq] at h
  have a := uw o h.1.1.1.1; have b := uw o h.1.1.1.2
  simp only [Ei, id]
  refine (if_pos (by simp; omega)).trans (bG hx (bG (uE a.1) (bG (uE b.1) (bG (xA q _ (aS (aS (aI (by omega) (aS (aI (by omega) (aI (by omega) aN)))))) (by simp) (by omega)) ?_))))
  rfl
 ·simp only [Ei, id]
  rw [if_neg (by simp)]
theorem abv {l : Layout} {p : Plan} (o : j4 l p) (q : List (List Str)) (hq : q.length ≤ 800) (hg : ∀ w ∈ q, fJ w) : Ep p l q () = Er p l (q ++ p.Turns.flatMap fun t => [uj p t]) () := by
 have z := o.sz.tu
 unfold Ep
 refine pY (B := Eh p l) id p.Turns (fun t => [uj p t]) (fun s => Er p l s ()) 1 (fun c q i x hx hm hi hq _ => ?_) (fun c q _ _ => ?_) (fun t ht => mh (Tw o (o.Gv t ht))) q (by omega) hg (by omega)
 ·have h := o.Gv x hm
  simp only [Bool.and_eq_true] at h
  simp only [Eh, id]
  refine (if_pos (by simp; omega)).trans (bG hx (bG (uE h.1.1) (bG (uE h.1.2) (bG (Te (Dk h.2)) (bG (xA q _ (aS (aS (aS (aS aN)))) (by simp) (by omega)) ?_)))))
  rfl
 ·simp only [Eh, id]
  rw [if_neg (by simp)]
theorem abu {l : Layout} {p : Plan} (o : j4 l p) (q : List (List Str)) (hq : q.length ≤ 700) (hg : ∀ w ∈ q, fJ w) : En p l q () = Ep p l (q ++ p.Changes.flatMap fun c => [rW p c]) () := by
 have z := o.sz.ch
 unfold En
 refine pY (B := Ef p l) id p.Changes (fun c => [rW p c]) (fun s => Ep p l s ()) 1 (fun c q i x hx hm hi hq _ => ?_) (fun c q _ _ => ?_) (fun t ht => mh (OZ o (o.Dn t ht))) q (by omega) hg (by omega)
 ·obtain ⟨⟨ha, hb⟩, hbn, hw⟩ := O1 o (o.Dn x hm)
  have a := uw o ha; have b := uw o hb
  simp only [Ef, id]
  refine (if_pos (by simp; omega)).trans (bG hx (bG (uE a.1) (bG (uE b.1) (bG (Te hbn) (bG (xA q _ (aS (aS (aI (by omega) (aS (aI (by omega) (aS (aI (by omega) aN))))))) (by simp) (by omega)) ?_)))))
  rfl
 ·simp only [Ef, id]
  rw [if_neg (by simp)]
theorem abt {l : Layout} {p : Plan} (o : j4 l p) {x : Line} (hx : x ∈ p.Lines) (c3 : (List (List Str) × Nat) → Option (Str × Int)) (t : Nat) (q : List (List Str)) (hq : q.length + 12 ≤ 2000) (hg : ∀ w ∈ q, fJ w) :
  iter (Cb x c3 t) FUEL (q, 0) = c3 (q ++ x.bq.map oW, t + 1) := by
 have z := o.sz.ri x hx
 have e : x.bq.map oW = x.bq.flatMap fun r => [oW r] := by rw [List.map_eq_flatMap]
 rw [e]
 refine pY (B := Cb x c3 t) id x.bq (fun r => [oW r]) (fun s => c3 (s, t + 1)) 1 (fun c q i r hr hm hi hq _ => ?_) (fun c q _ _ => ?_) (fun r hr => mh (RJ o hx hr)) q (by omega) hg (by omega)
 ·have h := SG o hx hm
  have hp := o.per; have hz := o.sz.ro
  simp only [Cb, id]
  refine (if_pos (by simp; omega)).trans (bG hr ?_)
  by_cases h0 : r.Max = 0
  ·refine (if_neg (by simpa using h0)).trans (bG (xA q _ (aS (aI (by omega) (aI (by omega) aN))) (by simp) (by omega)) ?_)
   simp [Eo, oW, h0, zl, JY]
  ·refine (if_pos (by simpa using h0)).trans (bG (Te h.2.2) (bG (xA q _ (aS (aI (by omega) (aI (by omega) (aS aN)))) (by simp) (by omega)) ?_))
   simp [Eo, oW, h0, zl, JY]
 ·simp only [Cb, id]
  rw [if_neg (by simp)]; rfl
theorem abr {l : Layout} {p : Plan} (o : j4 l p) (q : List (List Str)) (hq : q.length ≤ 400) (hg : ∀ w ∈ q, fJ w) : Em p l q () = En p l (q ++ p.Lines.flatMap (vJ p)) () := by
 have z := o.sz.li
 unfold Em
 refine (pY (B := Ee p l) id p.Lines (vJ p) (fun s => En p l s ()) 13 (fun c q i x hx hm hi hq hg => ?_) (fun c q _ _ => ?_) (fun x hx => DW o hx) q (by omega) hg (by omega))
 ·obtain ⟨h1, h2, h3, _⟩ := o.DV x hm
  have hg2 : ∀ w ∈ q ++ [wM p x], fJ w := xC hg (mh (QZ o hm)).2
  simp only [Ee, id]
  refine (if_pos (by simp; omega)).trans (bG hx (bG (qD h2.1 h2.2) (bG (xA q _ (aS (aS (aS (aI (by omega) aN)))) (by simp) (by omega)) ?_)))
  have := abt o hm c i (q ++ [wM p x]) (by simp; omega) hg2
  rw [List.append_assoc] at this
  exact this
 ·simp only [Ee, id]
  rw [if_neg (by simp)]
theorem abq {l : Layout} {p : Plan} (o : j4 l p) (q : List (List Str)) (hq : q.length ≤ 300) (hg : ∀ w ∈ q, fJ w) : El p l q () = Em p l (q ++ p.Routes.flatMap fun r => [qH l r]) () := by
 have z := o.sz.ro
 unfold El
 refine pY (B := Ed p l) id p.Routes (fun r => [qH l r]) (fun s => Em p l s ()) 1 (fun c q i x hx hm hi hq _ => ?_) (fun c q _ _ => ?_) (fun r hr => mh (NH o.vn (wW (o.rt r hr)))) q (by omega) hg (by omega)
 ·simp only [Ed, id]
  exact (if_pos (by simp; omega)).trans (bG hx (bG (aat (wW (o.rt x hm)) q (by omega)) rfl))
 ·simp only [Ed, id]
  rw [if_neg (by simp)]
theorem abp {l : Layout} {p : Plan} (o : j4 l p) (q : List (List Str)) (hq : q.length ≤ 200) (hg : ∀ w ∈ q, fJ w) : iter (Ca p l) FUEL (q, 0) = El p l (q ++ p.aY.flatMap fun s => [tY s]) () := by
 have z := o.sz.st
 refine pY (B := Ca p l) id p.aY (fun s => [tY s]) (fun s => El p l s ()) 1 (fun c q i x hx hm hi hq _ => ?_) (fun c q _ _ => ?_) (fun s hs => mh (Ta (o.yO s hs))) q (by omega) hg (by omega)
 ·have h := Tk (o.yO x hm).2
  simp only [Ca, id]
  exact (if_pos (by simp; omega)).trans (bG hx (bG (xA q _ (aS (aS (aI (by omega) (aI (by omega) (aI (by omega) (aI (by omega) aN)))))) (by simp) (by omega)) rfl))
 ·simp only [Ca, id]
  rw [if_neg (by simp)]
def Ms (l : Layout) (p : Plan) (e : Int) : Str × Int := if e = 0 then (⟨nZ (Iu l p)⟩, 0) else (⟨[]⟩, 1)
theorem abz (l : Layout) (p : Plan) : JJ l p = (tJ l p).bind fun e => some (Ms l p e) := by
 unfold JJ
 rw [Ve]
 cases hE : tJ l p with
 | none => rfl
 | some e =>
  simp only [Option.bind_some]
  unfold Ms
  by_cases h0 : e = 0
  ·subst h0
   have o := XB hE
   have z := o.sz
   have g := Vz o
   have hp := o.per
   rw [if_neg (by simp), if_pos rfl]
   have s1 := z.st; have s2 := z.ro; have s3 := z.li; have s4 := z.ch; have s5 := z.tu; have s6 := z.sy; have s7 := z.de
   have h1 := nu (f := fun s => [tY s]) (m := 1) (xs := p.aY) (fun _ _ => by simp)
   have h2 := nu (f := fun r => [qH l r]) (m := 1) (xs := p.Routes) (fun _ _ => by simp)
   have h3 := nu (f := vJ p) (m := 13) (xs := p.Lines) (fun x hx => (DW o hx).1)
   have h4 := nu (f := fun c => [rW p c]) (m := 1) (xs := p.Changes) (fun _ _ => by simp)
   have h5 := nu (f := fun t => [uj p t]) (m := 1) (xs := p.Turns) (fun _ _ => by simp)
   have h6 := nu (f := fun s => [ug p s]) (m := 1) (xs := p.bT) (fun _ _ => by simp)
   have hsub : ∀ {a b : List (List Str)}, (∀ w ∈ a ++ b, fJ w) → ∀ w ∈ a, fJ w := fun h w hw => h w (List.mem_append.2 (.inl hw))
   have g7 := g.1
   have g6 := hsub g7; have g5 := hsub g6; have g4 := hsub g5; have g3 := hsub g4; have g2 := hsub g3; have g1 := hsub g2; have g0 := hsub g1
   refine bG (xA [] _ (aS (aI (by omega) aN)) (by simp) (by simp)) ?_
   refine (abp o [Ae p] (by simp) g0).trans ?_
   rw [abq o _ (by simp only [List.length_append, List.length_singleton]; omega) g1, abr o _ (by simp only [List.length_append, List.length_singleton]; omega) g2, abu o _ (by simp only [List.length_append, List.length_singleton]; omega) g3,
    abv o _ (by simp only [List.length_append, List.length_singleton]; omega) g4, abw o _ (by simp only [List.length_append, List.length_singleton]; omega) g5, abx o _ (by simp only [List.length_append, List.length_singleton]; omega) g6]
   exact bG (abF g7 (by have := g.2; unfold Iu at this; omega)) rfl
  ·rw [if_pos (by simpa using h0), if_neg h0]
end Go.Proofs.YtcalibhfgdncaaaGreatDoor
namespace Go.Proofs.YtcalibhfgdncaaaGreatDoor
open Go.Dc
set_option maxRecDepth 10000
theorem cs {s t : Str} (h : s.l.length + t.l.length ≤ 100000000000000 := by first | omega | (simp only [List.length_append, List.length_cons, List.length_nil] <;> omega)) : dB s t = some ⟨s.l ++ t.l⟩ := H8 s.l t.l h
theorem cx {s t c : Str} (e : s.l ++ t.l = c.l) (h : s.l.length + t.l.length ≤ 100000000000000 := by first | omega | (simp only [List.length_append, List.length_cons, List.length_nil] <;> omega)) : dB s t = some c := by rw [cs h, e]
theorem d9 {n : Int} (h1 : -9223372036854775808 ≤ n ∧ n ≤ 9223372036854775807 := by omega) : nP n = some (nI n) := by
 unfold nP
 rw [Mg n h1.1 h1.2]; rfl
theorem Td {lo hi : Int} (h1 : 0 ≤ lo ∧ lo ≤ hi ∧ hi ≤ 7200) : Cz lo hi = some (rng lo hi) := by
 have c := BN lo (by omega) (by omega); have d := BN hi (by omega) (by omega)
 unfold Cz
 rw [Mg _ (by omega) (by omega), Option.bind_some, Mg _ (by omega) (by omega), H8 _ _ (by simp; omega), Option.bind_some, Option.bind_some, H8 _ _ (by simp; omega)]
 rfl
theorem W9 : ∀ (a : List (List Str)) (w : List Str), nZ (a ++ [w]) = nZ a ++ (iK true w ++ [10])
 | [], w => by simp [nZ]
 | v :: r, w => by simp [nZ, W9 r w]
theorem Oi : ∀ (a b : List Str) (f : Bool), a ≠ [] → iK f (a ++ b) = iK f a ++ iK false b
 | [], _, _, h => absurd rfl h
 | [s], b, f, _ => by simp [iK]
 | s :: t :: r, b, f, _ => by
  have := Oi (t :: r) b false (by simp)
  simp only [List.cons_append] at this ⊢
  simp only [iK] at this ⊢
  rw [this]; simp
theorem abG {q : List (List Str)} (hg : ∀ w ∈ q, fJ w) (hq : q.length ≤ 2000) : (nZ q).length ≤ 10000000 := by
 have h1 := WZ q
 have h2 := Px hg
 omega
theorem Mw {w : List Str} (h : ∀ s ∈ w, nE s) (hl : w.length ≤ 100) : (iK true w).length ≤ 5000 := by
 have h1 := TA true w
 have h2 := Py h
 omega
theorem agW {l : Layout} (v : zk l) {r : aV} (o : pF l r) : Ku l r = some ⟨iK true (qH l r) ++ [10]⟩ := by
 have hn := o.len; have hv := o.ov
 unfold Ku
 have := jP (B := F5 r l) (fun (s : List Str) i => (⟨iK true s⟩, i)) r.Steps (fun s i => s.length ≤ 1 + 2 * i ∧ s ≠ [] ∧ ∀ t ∈ s, nE t)
  (fun s t => some ⟨iK true (s ++ t.flatMap (tZ l) ++ wP r) ++ [10]⟩) ?_ ?_ FUEL [NG] 0 ⟨by simp, by simp, gq ⟨by decide, by decide⟩ qw⟩ (by omega) (je (by omega))
 ·rw [List.drop_zero] at this
  exact Eq.trans (by simp [iK, NG]) (this.trans (by simp [qH]))
 ·rintro c s i x t ⟨hs, h0, hg⟩ hdr hi hx hk
  have hm : x ∈ r.Steps := afu hx
  have hsn := ZC v (o.st x hm)
  have hw := Mw hg (by omega)
  have aiE := hsn.2
  have hk2 : ∀ w : Str, nE w → F6 i c ⟨iK true (s ++ [wX l x, w])⟩ = some ⟨iK true (s ++ [wX l x, w] ++ t.flatMap (tZ l) ++ wP r) ++ [10]⟩ := fun w hw => by
   unfold F6
   rw [bZ (dR (by omega) (by omega))]
   exact hk _ ⟨by simp; omega, by simp, fun u hu => by
    rcases List.mem_append.1 hu with e | e
    ·exact hg u e
    ·exact gq hsn (gq hw qw) u e⟩
  simp only [F5]
  refine (if_pos (by simp; omega)).trans (bG hx (bG (NJ o hm) ?_))
  rw [show (l.Sections.getD x.Section.toNat default).Name = wX l x from rfl]
  refine bG cs (bG cs (bG hx ?_))
  have hd := o.st x hm
  unfold gM at hd
  simp only [Bool.and_eq_true, Bool.or_eq_true, decide_eq_true_eq] at hd
  by_cases h1 : x.Dir = 0
  ·refine (if_pos (by simpa using h1)).trans (bG (cx (c := ⟨iK true (s ++ [wX l x, Gz])⟩) ?_) ?_)
   ·rw [Oi _ _ _ h0]; simp [iK, Gz]
   ·rw [hk2 _ aad]
    simp [tZ, h1]
  ·refine (if_neg (by simpa using h1)).trans (bG (cx (c := ⟨iK true (s ++ [wX l x, Dr])⟩) ?_) ?_)
   ·rw [Oi _ _ _ h0]; simp [iK, Dr]
   ·rw [hk2 _ Vj]
    have : x.Dir = 1 := by omega
    simp [tZ, this]
 ·rintro c s ⟨hs, h0, hg⟩
  have hw := Mw hg (by omega)
  simp only [F5]
  rw [if_neg (by simp)]
  unfold Sy wP
  by_cases h1 : r.Overlap = 0
  ·rw [if_neg (by simp; omega), if_neg (fun h => h h1)]
   unfold F7
   rw [cs, Option.bind_some]
   simp
  ·have hi := (jq (v := r.Overlap) (by omega) (by omega)).2
   rw [if_pos (by simp; omega), if_pos h1, Mg _ (by omega) (by omega), Option.bind_some, show (⟨Lib.itoa r.Overlap⟩ : Str) = nI r.Overlap from rfl]
   refine bG cs (bG (cx (c := ⟨iK true (s ++ [JG, nI r.Overlap])⟩) ?_) ?_)
   ·rw [Oi _ _ _ h0]; simp [iK, JG]
   ·have h2 := Mw (w := s ++ [JG, nI r.Overlap]) (fun u hu => by
     rcases List.mem_append.1 hu with e | e
     ·exact hg u e
     ·exact gq ⟨by decide, by decide⟩ (gq (jq (by omega) (by omega)) qw) u e) (by simp; omega)
    unfold F7
    rw [cs, Option.bind_some]
    simp
def iP (q : List (List Str)) : Str := ⟨nZ q⟩
theorem yE (q : List (List Str)) (w : List Str) : iP (q ++ [w]) = ⟨nZ q ++ (iK true w ++ [10])⟩ := by unfold iP; rw [W9]
theorem Ao {q : List (List Str)} (hg : ∀ w ∈ q, fJ w) (hq : q.length ≤ 2000) : (iP q).l.length ≤ 10000000 := abG hg hq
theorem yD (q : List (List Str)) : (iP q).l = nZ q := rfl
theorem agS {l : Layout} {p : Plan} (o : j4 l p) (q : List (List Str)) (hq : q.length ≤ 1000) (hg : ∀ w ∈ q, fJ w) : FX p l (iP q) () = some (iP (q ++ p.bS.flatMap fun d => [uT l d]), 0) := by
 have z := o.sz.de
 unfold FX
 refine pY (B := FP p l) iP p.bS (fun d => [uT l d]) (fun s => some (s, 0)) 1 (fun c q i x hx hm hi hq hg => ?_) (fun c q _ _ => ?_) (fun d hd => mh (Ph o.vn (Ic (o.Dq d hd)))) q (by omega) hg (by omega)
 ·have h := Ic (o.Dq x hm)
  have hj := Ao hg (by omega)
  have n1 := (NY o.vn h.1).2; have n2 := (NY o.vn h.2.1).2; have n3 := (jq (v := x.Weight) (by omega) (by omega)).2
  simp only [FP]
  refine (if_pos (by simp; omega)).trans (bG hx (bG (NW h.1) (bG cs (bG cs (bG (NW h.2.1) (bG cs (bG cs (bG d9 (bG cs (bG cs (bG (cx (c := iP (q ++ [uT l x])) ?_) ?_)))))))))))
  ·rw [yE, yD]; simp [uT, iK, Vi]
  ·exact bZ (dR (by omega) (by omega))
 ·simp only [FP]
  rw [if_neg (by simp)]; rfl
theorem agR {l : Layout} {p : Plan} (o : j4 l p) (q : List (List Str)) (hq : q.length ≤ 900) (hg : ∀ w ∈ q, fJ w) : FW p l (iP q) () = FX p l (iP (q ++ p.bT.flatMap fun s => [ug p s])) () := by
 have z := o.sz.sy
 unfold FW
 refine pY (B := FN p l) iP p.bT (fun s => [ug p s]) (fun s => FX p l s ()) 1 (fun c q i x hx hm hi hq hg => ?_) (fun c q _ _ => ?_) (fun s hs => mh (Tv o (o.syn s hs))) q (by omega) hg (by omega)
 ·have h := o.syn x hm
  have hp := o.per
  simp only [Bool.and_eq_true, decide_eq_true_eq] at h
  have a := uw o h.1.1.1.1; have b := uw o h.1.1.1.2
  have hj := Ao hg (by omega)
  have n1 := (uF o a.1).2; have n2 := (uF o b.1).2; have n3 := (jq (v := x.jc) (by omega) (by omega)).2; have n4 := (jq (v := x.jh) (by omega) (by omega)).2; have n5 := (jq (v := x.Offset) (by omega) (by omega)).2
  unfold sP at n1 n2
  simp only [FN]
  refine (if_pos (by simp; omega)).trans (bG hx (bG (uE a.1) (bG cs (bG cs (bG (uE b.1) (bG d9 (bG cs (bG cs (bG cs (bG cs (bG d9 (bG cs (bG cs (bG d9 (bG cs (bG cs (bG (cx (c := iP (q ++ [ug p x])) ?_) ?_)))))))))))))))))
  ·rw [yE, yD]; simp [ug, iK, Z8, sP]
  ·exact bZ (dR (by omega) (by omega))
 ·simp only [FN]
  rw [if_neg (by simp)]
theorem agQ {l : Layout} {p : Plan} (o : j4 l p) (q : List (List Str)) (hq : q.length ≤ 800) (hg : ∀ w ∈ q, fJ w) : FV p l (iP q) () = FW p l (iP (q ++ p.Turns.flatMap fun t => [uj p t])) () := by
 have z := o.sz.tu
 unfold FV
 refine pY (B := FM p l) iP p.Turns (fun t => [uj p t]) (fun s => FW p l s ()) 1 (fun c q i x hx hm hi hq hg => ?_) (fun c q _ _ => ?_) (fun t ht => mh (Tw o (o.Gv t ht))) q (by omega) hg (by omega)
 ·have h := o.Gv x hm
  simp only [Bool.and_eq_true] at h
  have hj := Ao hg (by omega)
  have n1 := (uF o h.1.1).2; have n2 := (uF o h.1.2).2; have n3 := (Dz (Dk h.2)).2
  unfold sP at n1 n2
  simp only [FM]
  refine (if_pos (by simp; omega)).trans (bG hx (bG (uE h.1.1) (bG cs (bG cs (bG (uE h.1.2) (bG cs (bG cs (bG (Td (Dk h.2)) (bG cs (bG cs (bG (cx (c := iP (q ++ [uj p x])) ?_) ?_)))))))))))
  ·rw [yE, yD]; simp [uj, iK, tnW, sP]
  ·exact bZ (dR (by omega) (by omega))
 ·simp only [FM]
  rw [if_neg (by simp)]
theorem agP {l : Layout} {p : Plan} (o : j4 l p) (q : List (List Str)) (hq : q.length ≤ 700) (hg : ∀ w ∈ q, fJ w) : FT p l (iP q) () = FV p l (iP (q ++ p.Changes.flatMap fun c => [rW p c])) () := by
 have z := o.sz.ch
 unfold FT
 refine pY (B := FL p l) iP p.Changes (fun c => [rW p c]) (fun s => FV p l s ()) 1 (fun c q i x hx hm hi hq hg => ?_) (fun c q _ _ => ?_) (fun t ht => mh (OZ o (o.Dn t ht))) q (by omega) hg (by omega)
 ·obtain ⟨⟨ha, hb⟩, hbn, hw⟩ := O1 o (o.Dn x hm)
  have a := uw o ha; have b := uw o hb
  have hj := Ao hg (by omega)
  have n1 := (uF o a.1).2; have n2 := (uF o b.1).2; have n3 := (jq (v := x.fG) (by omega) (by omega)).2; have n4 := (jq (v := x.iN) (by omega) (by omega)).2; have n5 := (Dz hbn).2; have n6 := (jq (v := x.Weight) (by omega) (by omega)).2
  unfold sP at n1 n2
  simp only [FL]
  refine (if_pos (by simp; omega)).trans (bG hx (bG (uE a.1) (bG cs (bG cs (bG (uE b.1) (bG d9 (bG cs (bG cs (bG cs (bG cs (bG d9 (bG cs (bG cs (bG (Td hbn) (bG cs (bG cs (bG d9 (bG cs (bG cs (bG (cx (c := iP (q ++ [rW p x])) ?_) ?_))))))))))))))))))))
  ·rw [yE, yD]; simp [rW, iK, Va, sP]
  ·exact bZ (dR (by omega) (by omega))
 ·simp only [FL]
  rw [if_neg (by simp)]
theorem agO {l : Layout} {p : Plan} (o : j4 l p) {x : Line} (hx : x ∈ p.Lines) (t : Nat) (ht : t ≤ 1000) (c3 : (Str × Nat) → Option (Str × Int)) (q : List (List Str)) (hq : q.length + 12 ≤ 2000) (hg : ∀ w ∈ q, fJ w) :
  iter (Cv x t c3) FUEL (iP q, 0) = c3 (iP (q ++ x.bq.map oW), t + 1) := by
 have z := o.sz.ri x hx
 have e : x.bq.map oW = x.bq.flatMap fun r => [oW r] := by rw [List.map_eq_flatMap]
 rw [e]
 refine pY (B := Cv x t c3) iP x.bq (fun r => [oW r]) (fun s => c3 (s, t + 1)) 1 (fun c q i r hr hm hi hq hg => ?_) (fun c q _ _ => ?_) (fun r hr => mh (RJ o hx hr)) q (by omega) hg (by omega)
 ·have h := SG o hx hm
  have hp := o.per; have hz := o.sz.ro
  have hj := Ao hg (by omega)
  have n1 := (jq (v := r.aV) (by omega) (by omega)).2; have n2 := (jq (v := r.Extra) (by omega) (by omega)).2; have n3 := (Dz h.2.2).2
  simp only [Cv]
  refine (if_pos (by simp; omega)).trans (bG hr (bG hr (bG d9 (bG cs (bG cs (bG d9 (bG cs (bG cs (bG hr ?_)))))))))
  by_cases h0 : r.Max = 0
  ·refine (if_neg (by simp; omega)).trans ?_
   unfold FU
   refine bG (cx (c := iP (q ++ [oW r])) ?_) (bZ (dR (by omega) (by omega)))
   rw [yE, yD]; simp [oW, iK, JY, h0]
  ·refine (if_pos (by simp; omega)).trans (bG hr (bG hr (bG (Td h.2.2) (bG cs (bG cs ?_)))))
   unfold FU
   refine bG (cx (c := iP (q ++ [oW r])) ?_) (bZ (dR (by omega) (by omega)))
   rw [yE, yD]; simp [oW, iK, JY, h0]
 ·simp only [Cv]
  rw [if_neg (by simp)]
  unfold Sq
  exact bZ (dR (by omega) (by omega))
theorem agN {l : Layout} {p : Plan} (o : j4 l p) (q : List (List Str)) (hq : q.length ≤ 400) (hg : ∀ w ∈ q, fJ w) : FR p l (iP q) () = FT p l (iP (q ++ p.Lines.flatMap (vJ p))) () := by
 have z := o.sz.li
 unfold FR
 refine (pY (B := FK p l) iP p.Lines (vJ p) (fun s => FT p l s ()) 13 (fun c q i x hx hm hi hq hg => ?_) (fun c q _ _ => ?_) (fun x hx => DW o hx) q (by omega) hg (by omega))
 ·obtain ⟨h1, h2, h3, _⟩ := o.DV x hm
  have hg2 : ∀ w ∈ q ++ [wM p x], fJ w := xC hg (mh (QZ o hm)).2
  have hj := Ao hg (by omega)
  have n1 := (Bt h1).2; have n2 := (Bt (o.yO _ (pU (xs := p.aY) (i := x.bL.toNat) (by omega))).1).2; have n3 := (jq (v := x.Weight) (by omega) (by omega)).2
  simp only [FK]
  refine (if_pos (by simp; omega)).trans (bG hx (bG cs (bG cs (bG (qD h2.1 h2.2) (bG cs (bG cs (bG d9 (bG cs (bG cs (bG (cx (c := iP (q ++ [wM p x])) ?_) ?_))))))))))
  ·rw [yE, yD]; simp [wM, iK, Xl]
  ·have := agO o hm i (by omega) c (q ++ [wM p x]) (by simp; omega) hg2
   rw [List.append_assoc] at this
   exact this
 ·simp only [FK]
  rw [if_neg (by simp)]
theorem agM {l : Layout} {p : Plan} (o : j4 l p) (q : List (List Str)) (hq : q.length ≤ 300) (hg : ∀ w ∈ q, fJ w) : FQ p l (iP q) () = FR p l (iP (q ++ p.Routes.flatMap fun r => [qH l r])) () := by
 have z := o.sz.ro
 unfold FQ
 refine pY (B := FJ p l) iP p.Routes (fun r => [qH l r]) (fun s => FR p l s ()) 1 (fun c q i x hx hm hi hq hg => ?_) (fun c q _ _ => ?_) (fun r hr => mh (NH o.vn (wW (o.rt r hr)))) q (by omega) hg (by omega)
 ·have hj := Ao hg (by omega)
  have hr := NH o.vn (wW (o.rt x hm))
  have hw := Mw hr.2.2 (by have := hr.2.1; omega)
  simp only [FJ]
  refine (if_pos (by simp; omega)).trans (bG hx (bG (agW o.vn (wW (o.rt x hm))) (bG (cx (c := iP (q ++ [qH l x])) ?_) ?_)))
  ·rw [yE, yD]
  ·exact bZ (dR (by omega) (by omega))
 ·simp only [FJ]
  rw [if_neg (by simp)]
theorem agL {l : Layout} {p : Plan} (o : j4 l p) (q : List (List Str)) (hq : q.length ≤ 200) (hg : ∀ w ∈ q, fJ w) : iter (Cu p l) FUEL (iP q, 0) = FQ p l (iP (q ++ p.aY.flatMap fun s => [tY s])) () := by
 have z := o.sz.st
 refine pY (B := Cu p l) iP p.aY (fun s => [tY s]) (fun s => FQ p l s ()) 1 (fun c q i x hx hm hi hq hg => ?_) (fun c q _ _ => ?_) (fun s hs => mh (Ta (o.yO s hs))) q (by omega) hg (by omega)
 ·have h := Tk (o.yO x hm).2
  have hj := Ao hg (by omega)
  have n1 := (Bt (o.yO x hm).1).2; have n2 := (jq (v := x.Length) (by omega) (by omega)).2; have n3 := (jq (v := x.lI) (by omega) (by omega)).2; have n4 := (jq (v := x.lF) (by omega) (by omega)).2; have n5 := (jq (v := x.lG) (by omega) (by omega)).2
  simp only [Cu]
  refine (if_pos (by simp; omega)).trans (bG hx (bG cs (bG cs (bG d9 (bG cs (bG cs (bG d9 (bG cs (bG cs (bG d9 (bG cs (bG cs (bG d9 (bG cs (bG cs (bG (cx (c := iP (q ++ [tY x])) ?_) ?_))))))))))))))))
  ·rw [yE, yD]; simp [tY, iK, ZK]
  ·exact bZ (dR (by omega) (by omega))
 ·simp only [Cu]
  rw [if_neg (by simp)]
theorem aby (l : Layout) (p : Plan) : Kq l p = (tJ l p).bind fun e => some (Ms l p e) := by
 unfold Kq
 rw [Vb]
 cases hE : tJ l p with
 | none => rfl
 | some e =>
  simp only [Option.bind_some]
  unfold Ms
  by_cases h0 : e = 0
  ·subst h0
   have o := XB hE
   have z := o.sz
   have g := Vz o
   have hp := o.per
   rw [if_neg (by simp), if_pos rfl]
   have s1 := z.st; have s2 := z.ro; have s3 := z.li; have s4 := z.ch; have s5 := z.tu; have s6 := z.sy; have s7 := z.de
   have h1 := nu (f := fun s => [tY s]) (m := 1) (xs := p.aY) (fun _ _ => by simp)
   have h2 := nu (f := fun r => [qH l r]) (m := 1) (xs := p.Routes) (fun _ _ => by simp)
   have h3 := nu (f := vJ p) (m := 13) (xs := p.Lines) (fun x hx => (DW o hx).1)
   have h4 := nu (f := fun c => [rW p c]) (m := 1) (xs := p.Changes) (fun _ _ => by simp)
   have h5 := nu (f := fun t => [uj p t]) (m := 1) (xs := p.Turns) (fun _ _ => by simp)
   have h6 := nu (f := fun s => [ug p s]) (m := 1) (xs := p.bT) (fun _ _ => by simp)
   have hsub : ∀ {a b : List (List Str)}, (∀ w ∈ a ++ b, fJ w) → ∀ w ∈ a, fJ w := fun h w hw => h w (List.mem_append.2 (.inl hw))
   have g7 := g.1
   have g6 := hsub g7; have g5 := hsub g6; have g4 := hsub g5; have g3 := hsub g4; have g2 := hsub g3; have g1 := hsub g2; have g0 := hsub g1
   have n1 := (jq (v := p.dW) (by omega) (by omega)).2
   refine bG d9 (bG cs (bG (cx (c := iP [Ae p]) ?_) ?_))
   ·simp [iP, nZ, Ae, iK, XA]
   refine (agL o [Ae p] (by simp) g0).trans ?_
   rw [agM o _ (by simp only [List.length_append, List.length_singleton]; omega) g1, agN o _ (by simp only [List.length_append, List.length_singleton]; omega) g2, agP o _ (by simp only [List.length_append, List.length_singleton]; omega) g3,
    agQ o _ (by simp only [List.length_append, List.length_singleton]; omega) g4, agR o _ (by simp only [List.length_append, List.length_singleton]; omega) g5, agS o _ (by simp only [List.length_append, List.length_singleton]; omega) g6]
   rfl
  ·rw [if_pos (by simpa using h0), if_neg h0]
end Go.Proofs.YtcalibhfgdncaaaGreatDoor

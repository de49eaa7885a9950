/- Several parts of the engine, one behind the other. -/
import Derived.Test.YtcalibhfgdncaaaGreatDoorQ1
import Derived.Test.YtcalibhfgdncaaaGreatDoorRd
import Derived.Test.YtcalibhfgdncaaaGreatDoorRb
import Derived.Test.YtcalibhfgdncaaaGreatDoorLm
import Derived.Test.YtcalibhfgdncaaaGreatDoorRo
import Derived.Test.YtcalibhfgdncaaaGreatDoorRe
import Derived.Test.YtcalibhfgdncaaaGreatDoorWa
import Derived.Test.YtcalibhfgdncaaaGreatDoorVw
import Derived.Lib.ItoaMem
set_option linter.all false
namespace Go.Proofs.YtcalibhfgdncaaaGreatDoor
open Go.Dc
def gM (l : Layout) (s : Step) : Bool := (decide (0 ≤ s.Section) && decide (s.Section < (l.Sections.length : Int))) && (decide (s.Dir = 0) || decide (s.Dir = 1))
def lQ (s : Step) : jB := if s.Dir = 0 then ⟨s.Section, 1⟩ else ⟨s.Section, 0⟩
def tO (s : Step) : Step := if s.Dir = 0 then ⟨s.Section, 1⟩ else ⟨s.Section, 0⟩
def DT (f t : jB) (k : Link) : Bool := (decide (jB.mk k.A k.bY = f) && decide (jB.mk k.B k.dx = t)) || (decide (jB.mk k.A k.bY = t) && decide (jB.mk k.B k.dx = f))
def Gx (f t : jB) : List Link → Int × Bool
 | [] => (0, false)
 | k :: r => if DT f t k then (k.Point, true) else Gx f t r
def tr (l : Layout) (s t : Step) : Int × Bool := Gx (lQ s) (lQ (tO t)) l.Links
theorem Xg (s : Step) : Gf s = some (lQ s) := by
 unfold Gf lQ
 by_cases h : s.Dir = 0 <;> simp [h]
theorem agK (s : Step) : Jy s = some (tO s) := by
 unfold Jy tO
 by_cases h : s.Dir = 0 <;> simp [h]
theorem ahK (l : Layout) (s t : Step) (hl : l.Links.length ≤ 1000) : KH l s t = some (tr l s t) := by
 unfold KH
 rw [Xg, agK]
 simp only [Option.bind_some]
 rw [Xg]
 simp only [Option.bind_some]
 unfold ND tr
 have := jP (B := Gl l (lQ s).eH (lQ s).side (lQ (tO t)).eH (lQ (tO t)).side) (fun (_ : Unit) i => i) l.Links (fun _ _ => True) (fun _ r => some (Gx (lQ s) (lQ (tO t)) r)) ?_ ?_ FUEL () 0 trivial (by omega) (je (by omega))
 ·simpa using this
 ·intro c _ i k r _ _ hi hx hc
  simp only [Gl]
  rw [if_pos (by simp; omega), hx]
  simp only [Option.bind_some, Gx]
  have hc' := hc () trivial
  show (if DT (lQ s) (lQ (tO t)) k = true then some (k.Point, true) else c (i + 1)) = _
  by_cases hj : DT (lQ s) (lQ (tO t)) k = true
  ·rw [if_pos hj, if_pos hj]
  ·rw [if_neg hj, if_neg hj, ← hc']
 ·intro c _ _
  simp only [Gl]
  rw [if_neg (by simp)]
  rfl
def wR (l : Layout) : Step → List Step → Option (List Int)
 | _, [] => some []
 | a, b :: r => if (tr l a b).2 then (wR l b r).map ((tr l a b).1 :: ·) else none
def MS (l : Layout) : List Step → Option (List Int)
 | [] => some []
 | a :: r => wR l a r
def mP : List Int → List Step → Bool
 | _, [] => false
 | seen, s :: r => decide (s.Section ∈ seen) || mP (s.Section :: seen) r
def qF (l : Layout) (r : aV) : List Int × Int :=
 match MS l r.Steps with
 | none => ([], 11)
 | some q => (q, 0)
def gU (l : Layout) (r : aV) : List Int × Int :=
 if jD (fD l) ≠ 0 then ([], 1) else
 if 24 < r.Steps.length ∨ 2 < r.Overlap then ([], 7) else
 if r.Overlap < 0 ∨ (r.Steps.length : Int) - r.Overlap < 2 then ([], 4) else
 if r.Steps.all (gM l) = false then ([], 4) else
 if mP [] r.Steps = true then ([], 5) else qF l r
theorem O5 {l : Layout} (h : jD (fD l) = 0) : l.aX.length ≤ 24 ∧ l.bF.length ≤ 48 ∧ l.Sections.length ≤ 96 ∧ l.Links.length ≤ 192 ∧ 0 < l.Sections.length := by
 unfold jD at h
 by_cases hf : pR (fD l) = true
 ·rw [if_pos hf] at h; omega
 ·rw [if_neg hf] at h
  unfold pR at hf
  simp only [fD, List.length_map, decide_eq_true_eq] at hf h
  by_cases h0 : l.Sections.length = 0
  ·rw [if_pos h0] at h; omega
  ·omega
theorem agl (l : Layout) (r : aV) (hl : l.Links.length ≤ 1000) (h2 : 2 ≤ r.Steps.length) (nJ : r.Steps.length ≤ 24) :
  NC r l () = some (qF l r) := by
 unfold NC
 have hs : sub r.Steps 1 (r.Steps.length : Int) = some (r.Steps.drop 1) := by
  unfold sub; rw [if_pos (by omega)]
  simp
 rw [hs]
 simp only [Option.bind_some]
 obtain ⟨a, rest, hS⟩ : ∃ a rest, r.Steps = a :: rest := by
  cases h : r.Steps with
  | nil => rw [h] at h2; simp at h2
  | cons a rest => exact ⟨a, rest, rfl⟩
 have hd : r.Steps.drop 1 = rest := by rw [hS]; rfl
 rw [hd]
 have hrl : r.Steps.length = rest.length + 1 := by rw [hS]; rfl
 have := jP (B := Gi rest r l) (fun (s : List Int × Step) i => (s.1, i)) rest (fun s i => r.Steps[i]? = some s.2 ∧ s.1.length ≤ i)
  (fun s q => some (match wR l s.2 q with | none => ([], 11) | some z => (s.1 ++ z, 0))) ?_ ?_ FUEL ([], a) 0 ⟨by rw [hS]; rfl, by simp⟩ (by omega) (je (by omega))
 ·simp only [List.nil_append, List.drop_zero] at this
  rw [this]
  unfold qF
  rw [hS]
  rfl
 ·rintro c ⟨s, p⟩ i x q ⟨hp, hsl⟩ hdr hi hx hc
  simp only at hp hsl
  simp only [Gi]
  rw [if_pos (by simp; omega), hx]
  simp only [Option.bind_some]
  rw [kC, hp]
  simp only [Option.bind_some]
  rw [ahK l p x hl]
  simp only [Option.bind_some, wR]
  by_cases ht : (tr l p x).2 = true
  ·rw [if_neg (by simp [ht]), bZ (by simp; omega), if_pos ht]
   have hn : r.Steps[i + 1]? = some x := by
    rw [hS, List.getElem?_cons_succ]
    have := hx
    rw [kC] at this
    exact this
   have h := hc (s ++ [(tr l p x).1], x) ⟨hn, by simp; omega⟩
   simp only at h
   rw [h]
   cases wR l x q with
   | none => rfl
   | some z => simp
  ·have hf : (tr l p x).2 = false := by simpa using ht
   rw [if_pos (by simp [hf]), if_neg ht]
 ·rintro c ⟨s, p⟩ _
  simp only [Gi]
  rw [if_neg (by simp)]
  simp [SK, wR]
theorem agk (l : Layout) (r : aV) (hc : jD (fD l) = 0) (h2 : 2 ≤ r.Steps.length) (nJ : r.Steps.length ≤ 24) (ha : r.Steps.all (gM l) = true) :
  NA l r () = some (if mP [] r.Steps = true then (([] : List Int), (5 : Int)) else qF l r) := by
 have hf := O5 hc
 unfold NA
 rw [afv (by omega) (by omega)]
 simp only [Option.bind_some]
 have := jP (B := Gh r l) (fun (s : List Bool × List Int) i => (s.1, i)) r.Steps (fun s _ => s.1.length = l.Sections.length ∧ ∀ x : Int, 0 ≤ x → x < l.Sections.length → (gb s.1 x = true ↔ x ∈ s.2))
  (fun s q => some (if mP s.2 q = true then (([] : List Int), (5 : Int)) else qF l r)) ?_ ?_ FUEL (List.replicate (l.Sections.length : Int).toNat false, []) 0 ⟨by simp, fun x x0 x1 => by simp [abC _ _ x x0 (by omega)]⟩ (by omega) (je (by omega))
 ·simp only [List.drop_zero] at this
  exact this
 ·rintro c ⟨s, seen⟩ i x q ⟨hl, hs⟩ hdr hi hx hk
  simp only at hl hs
  simp only [Gh]
  have hm : x ∈ r.Steps := List.mem_of_mem_drop (i := i) (by rw [hdr]; exact List.mem_cons_self)
  have hx1 : gM l x = true := List.all_eq_true.1 ha x hm
  unfold gM at hx1
  simp only [Bool.and_eq_true, Bool.or_eq_true, decide_eq_true_eq] at hx1
  rw [if_pos (by simp; omega), hx]
  simp only [Option.bind_some]
  have hb : idx s x.Section = some (gb s x.Section) := by
   have : x.Section.toNat < s.length := by omega
   simp [idx, hx1.1.1, gb, this]
  rw [hb]
  simp only [Option.bind_some]
  have hdd : mP seen (x :: q) = (decide (x.Section ∈ seen) || mP (x.Section :: seen) q) := rfl
  have hg := hs x.Section hx1.1.1 hx1.1.2
  by_cases hd : gb s x.Section = true
  ·rw [if_pos hd]
   rw [if_pos (show mP seen (x :: q) = true by rw [hdd]; simp [hg.1 hd])]
  ·rw [if_neg hd]
   have hn : ¬ x.Section ∈ seen := fun h => hd (hg.2 h)
   have h := hk (s.set x.Section.toNat true, x.Section :: seen) ⟨by simp [hl], fun z z0 z1 => by
    rw [abD _ _ _ _ hx1.1.1 z0 (by omega)]
    by_cases e : z = x.Section
    ·simp [e]
    ·rw [if_neg e, hs z z0 z1]; simp [e]⟩
   simp only at h
   rw [h, hdd]
   simp [hn]
 ·rintro c ⟨s, seen⟩ _
  simp only [Gh]
  rw [if_neg (by simp), agl l r (by omega) h2 nJ]
  simp [mP]
theorem agj (l : Layout) (r : aV) : KG l r = some (gU l r) := by
 unfold KG Jw
 simp only [Option.bind_some]
 by_cases hc : jD (fD l) = 0
 ·have hf := O5 hc
  have n1 : ¬ jD (fD l) ≠ 0 := by simp [hc]
  rw [if_neg (by simp [hc])]
  by_cases nJ : 24 < r.Steps.length
  ·have e : gU l r = ([], 7) := by unfold gU; rw [if_neg n1, if_pos (.inl nJ)]
   rw [e, if_pos (by simp; omega)]
   unfold Gj
   rw [if_pos (by simp; omega)]
  ·rw [if_neg (by simp; omega)]
   unfold Gj
   by_cases ho : 2 < r.Overlap
   ·have e : gU l r = ([], 7) := by unfold gU; rw [if_neg n1, if_pos (.inr ho)]
    rw [e, if_pos (by simp; omega)]
   ·rw [if_neg (by simp; omega)]
    unfold KF
    by_cases h0 : r.Overlap < 0
    ·have e : gU l r = ([], 4) := by unfold gU; rw [if_neg n1, if_neg (by omega), if_pos (.inl h0)]
     rw [e, if_pos (by simp; omega), if_pos (by simp; omega)]
    ·rw [if_neg (by simp; omega), bZ (dR (by omega) (by omega))]
     by_cases h2 : (r.Steps.length : Int) - r.Overlap < 2
     ·have e : gU l r = ([], 4) := by unfold gU; rw [if_neg n1, if_neg (by omega), if_pos (.inr h2)]
      rw [e, if_pos (by simp; omega)]
     ·have e : gU l r = if r.Steps.all (gM l) = false then ([], 4) else if mP [] r.Steps = true then ([], 5) else qF l r := by unfold gU; rw [if_neg n1, if_neg (by omega), if_neg (by omega)]
      rw [e, if_neg (by simp; omega)]
      have := jP (B := Gg r l) (fun (_ : Unit) i => i) r.Steps (fun _ i => (r.Steps.take i).all (gM l) = true)
       (fun _ q => some (if q.all (gM l) = false then (([] : List Int), (4 : Int)) else if mP [] r.Steps = true then ([], 5) else qF l r)) ?_ ?_ FUEL () 0 (by simp) (by omega) (je (by omega))
      ·simp only [List.drop_zero] at this
       exact this
      ·intro c _ i x q hI hdr hi hx hk
       simp only [Gg]
       rw [if_pos (by simp; omega), hx]
       simp only [Option.bind_some, Nz]
       by_cases hb : gM l x = true
       ·have hb' := hb
        unfold gM at hb'
        rw [if_neg (by simp [hb'])]
        have ht : r.Steps.take (i + 1) = r.Steps.take i ++ [x] := by
         rw [List.take_succ_eq_append_getElem hi]
         rw [kC, List.getElem?_eq_getElem hi] at hx
         cases hx; rfl
        have h := hk () (by rw [ht, List.all_append, hI]; simp [hb])
        rw [h]
        simp [hb]
       ·have hb' := hb
        unfold gM at hb'
        rw [if_pos (by simp at hb' ⊢; omega)]
        simp [hb]
      ·intro c _ hI
       simp only [Gg]
       rw [List.take_length] at hI
       rw [if_neg (by simp), agk l r hc (by omega) (by omega) hI]
       simp
 ·have e : gU l r = ([], 1) := by unfold gU; rw [if_pos hc]
  rw [e, if_pos (by simp [hc])]
theorem YT (l : Layout) (r : aV) : Gd l r = some (gU l r).2 := by
 unfold Gd
 rw [agj]
 rfl
end Go.Proofs.YtcalibhfgdncaaaGreatDoor
namespace Go.Proofs.YtcalibhfgdncaaaGreatDoor
open Go.Dc
theorem Md {s : Str} {i : Nat} (h : i < s.l.length) : kP s (i : Int) = some (Go.eT.bt s.ba i) := by
 simp [kP, Go.eT.bt, Str.ba, h, idx]
theorem Xh (c : Int) : Fp c = some (mI c) := by
 unfold Fp mI
 rw [Bool.or_comm]
theorem aa6 (c : Int) : J6 c = some (rX c) := rfl
theorem Q6 (s : Str) : Cq s = some (jH s.ba) := by
 unfold Cq jH
 rw [Str.xI]
 by_cases h : 1 ≤ s.l.length ∧ s.l.length ≤ 12
 ·have hg : (!(decide ((s.l.length : Int) < 1) || decide (12 < (s.l.length : Int)))) = true := by simp; omega
  rw [o9 hg]
  have h0 := Md (s := s) (i := 0) (by omega)
  rw [show ((0 : Nat) : Int) = 0 from rfl] at h0
  rw [h0]
  simp only [Option.bind_some]
  rw [o9 hg, Xh]
  simp only [Option.bind_some]
  by_cases hL : mI (Go.eT.bt s.ba 0) = true
  ·rw [if_neg (by simp [hL]; omega)]
   have := jP (B := Fa s) (fun (_ : Unit) i => i) (List.range s.l.length) (fun _ _ => True) (fun _ r => some (r.all fun i => mF (Go.eT.bt s.ba i))) ?_ ?_ FUEL () 1 trivial (by simp; omega) (je (by simp; omega))
   ·rw [this]
    have hr : List.range s.l.length = 0 :: (List.range s.l.length).drop 1 := by
     have := List.drop_eq_getElem_cons (l := List.range s.l.length) (i := 0) (by simp; omega)
     simpa using this
    congr 1
    conv => rhs; rw [hr]
    have hc0 : mF (Go.eT.bt s.ba 0) = true := by unfold mF; simp [hL]
    simp [hL, h.1, h.2, hc0]
   ·intro c _ i x r _ hdr hi hx hk
    simp only [List.length_range] at hi
    have hxi : x = i := by
     have := List.getElem?_drop (xs := List.range s.l.length) (i := i) (j := 0)
     rw [hdr] at this
     simp [hi] at this
     omega
    subst hxi
    have hb := Md (s := s) (i := x) hi
    simp only [Fa]
    rw [if_pos (by simp; omega), hb]
    simp only [Option.bind_some]
    rw [Xh]
    simp only [Option.bind_some]
    by_cases a1 : mI (Go.eT.bt s.ba x) = true
    ·rw [oC (by simp [a1])]
     simp only [Option.bind_some]
     rw [oC (by simp [a1])]
     simp only [Option.bind_some]
     rw [oC (by simp [a1])]
     simp only [Option.bind_some]
     rw [if_neg (by simp [a1]), bZ (dR (by omega) (by omega)), hk () trivial]
     simp [mF, a1]
    ·have a1' : mI (Go.eT.bt s.ba x) = false := by simpa using a1
     rw [o9 (by simp [a1'])]
     simp only [Option.bind_some]
     rw [o9 (by simp [a1']), aa6]
     simp only [Option.bind_some]
     by_cases a2 : rX (Go.eT.bt s.ba x) = true
     ·rw [oC (by simp [a2])]
      simp only [Option.bind_some]
      rw [if_neg (by simp [a2]), bZ (dR (by omega) (by omega)), hk () trivial]
      simp [mF, a2]
     ·have Ba : rX (Go.eT.bt s.ba x) = false := by simpa using a2
      rw [o9 (by simp [a1', Ba])]
      simp only [Option.bind_some]
      by_cases a3 : Go.eT.bt s.ba x = 95
      ·rw [if_neg (by simp [a3]), bZ (dR (by omega) (by omega)), hk () trivial]
       simp [mF, a3]
      ·rw [if_pos (by simp [a1', Ba, a3])]
       simp [mF, a1', Ba, a3]
   ·intro c _ _
    simp only [Fa]
    rw [if_neg (by simp)]
    rfl
  ·have hL' : mI (Go.eT.bt s.ba 0) = false := by simpa using hL
   rw [if_pos (by simp [hL'])]
   simp [hL']
 ·have hg : (!(decide ((s.l.length : Int) < 1) || decide (12 < (s.l.length : Int)))) = false := by simp; omega
  rw [oC hg]
  simp only [Option.bind_some]
  rw [oC hg]
  simp only [Option.bind_some]
  rw [if_pos (by simp [Int.not_lt.mp, h] <;> omega)]
  have : (decide (1 ≤ s.l.length) && decide (s.l.length ≤ 12)) = false := by simp; omega
  simp [this]
theorem Xm {s : Str} {l : List Str} : s.ba ∈ l.map Str.ba ↔ s ∈ l := by
 simp only [List.mem_map]
 constructor
 ·rintro ⟨t, h, e⟩; rw [← Str.OT e]; exact h
 ·intro h; exact ⟨s, h, rfl⟩
theorem Xq (l : List Str) (i : Nat) (hi : i < l.length) (hl : l.length ≤ 1000) : Aj l i = some (jR l[i].ba ((l.take i).map Str.ba)) := by
 unfold Aj jR
 rw [kC, List.getElem?_eq_getElem hi]
 simp only [Option.bind_some]
 rw [Q6]
 simp only [Option.bind_some]
 by_cases hn : jH l[i].ba = true
 ·rw [if_neg (by simp [hn])]
  rw [if_neg (by simp [hn])]
  have hlt : (l.take i).length = i := by rw [List.length_take]; omega
  have := jP (B := Fu i l) (fun (_ : Unit) i => i) (l.take i) (fun _ _ => True) (fun _ r => some (if l[i] ∈ r then (5 : Int) else 0)) ?_ ?_ FUEL () 0 trivial (by omega) (je (by omega))
  ·simp only [List.drop_zero] at this
   rw [this]
   by_cases hm : l[i] ∈ l.take i
   ·rw [if_pos hm, if_pos (Xm.2 hm)]
   ·rw [if_neg hm, if_neg (fun h => hm (Xm.1 h))]
  ·intro c _ j x r _ hdr hj hx hk
   simp only [Fu]
   rw [hlt] at hj
   rw [if_pos (by simp; omega)]
   have hxj : idx l (j : Int) = some x := by
    rw [kC] at hx ⊢
    rw [List.getElem?_take, if_pos hj] at hx
    exact hx
   rw [hxj]
   simp only [Option.bind_some]
   rw [kC, List.getElem?_eq_getElem hi]
   simp only [Option.bind_some]
   by_cases e : x = l[i]
   ·rw [if_pos (by simp [e])]
    simp [e]
   ·rw [if_neg (by simp [e]), bZ (dR (by omega) (by omega)), hk () trivial]
    have e' : ¬ l[i] = x := fun h => e h.symm
    simp [e']
  ·intro c _ _
   simp only [Fu]
   rw [if_neg (by simp; omega)]
   rfl
 ·have hn' : jH l[i].ba = false := by simpa using hn
  rw [if_pos (by simp [hn']), if_pos hn']
theorem ahf (l : Layout) (hl : l.Sections.length ≤ 1000) : Fw l = some (l.Sections.map (·.Name)) := by
 unfold Fw
 have := jP (B := Fv l) (fun (s : List Str) i => (s, i)) l.Sections (fun s i => s.length ≤ i) (fun s r => some (s ++ r.map (·.Name))) ?_ ?_ FUEL [] 0 (by simp) (by omega) (je (by omega))
 ·simpa using this
 ·intro c s i x r hs hdr hi hx hk
  simp only [Fv]
  rw [if_pos (by simp; omega), hx]
  simp only [Option.bind_some]
  rw [bZ (by simp; omega), bZ (dR (by omega) (by omega)), hk (s ++ [x.Name]) (by simp; omega)]
  simp
 ·intro c s _
  simp only [Fv]
  rw [if_neg (by simp)]
  simp [Sg]
end Go.Proofs.YtcalibhfgdncaaaGreatDoor
namespace Go.Proofs.YtcalibhfgdncaaaGreatDoor
open Go.Dc
theorem GD {α : Type} (g : Bool) (d v : α) : dV g d (some v) = some (bif g then v else d) := by cases g <;> rfl
def hasB (x : kL) (k : Link) : Bool := (decide (k.A = x.eH) && decide (k.bY = x.end_)) || (decide (k.B = x.eH) && decide (k.dx = x.end_))
theorem VT (k : Link) (x : kL) : Fj k x = some (hasB x k) := rfl
def pK (k : Link) : List Link → Bool
 | [] => true
 | [y] => (decide (0 ≤ k.Point) && decide (y.Point = k.Point)) && decide (y.Pos ≠ k.Pos)
 | _ => false
set_option maxRecDepth 100000 in
theorem VA (l : Layout) (i : Nat) (hi : i < l.Links.length) (hl : l.Links.length ≤ 1000) (x : kL) : Fh l i x = some (pK l.Links[i] ((l.Links.take i).filter (hasB x))) := by
 unfold Fh
 rw [kC, List.getElem?_eq_getElem hi]
 simp only [Option.bind_some]
 have hlt : (l.Links.take i).length = i := by rw [List.length_take]; omega
 have := jP (B := Fe i l x l.Links[i]) (fun (s : (Int × Int × Int × Int × Int × Int × Int) × List Link) j => (s.1.1, s.1.2.1, s.1.2.2.1, s.1.2.2.2.1, s.1.2.2.2.2.1, s.1.2.2.2.2.2.1, s.1.2.2.2.2.2.2, j)) (l.Links.take i)
  (fun s j => s.1.1 = s.2.length ∧ s.2.length ≤ j ∧ ∀ y, s.2 = [y] → s.1.2.2.2.2.2.1 = y.Point ∧ s.1.2.2.2.2.2.2 = y.Pos) (fun s r => some (pK l.Links[i] (s.2 ++ r.filter (hasB x)))) ?_ ?_ FUEL ((0, 0, 0, 0, 0, 0, 0), []) 0 ⟨rfl, by simp, fun y h => by simp at h⟩ (by omega) (je (by omega))
 ·simpa using this
 ·rintro c ⟨⟨m, o0, o1, o2, o3, o4, o5⟩, ys⟩ j q r ⟨hm, hy, ho⟩ hdr hj hq hk
  simp only at hm hy ho
  simp only [Fe]
  rw [hlt] at hj
  rw [if_pos (by simp; omega)]
  have hqj : idx l.Links (j : Int) = some q := by
   rw [kC] at hq ⊢
   rw [List.getElem?_take, if_pos hj] at hq
   exact hq
  rw [hqj, Option.bind_some, VT, Option.bind_some]
  by_cases hb : hasB x q = true
  ·rw [if_pos hb, Option.bind_some, bZ (dR (by omega) (by omega))]
   simp only [Fg]
   rw [bZ (dR (by omega) (by omega))]
   have h := hk ((m + 1, q.A, q.bY, q.B, q.dx, q.Point, q.Pos), ys ++ [q]) ⟨by simp [hm], by simp; omega, fun y h => by
    have : ys = [] := by
     cases ys with
     | nil => rfl
     | cons a t => simp at h
    subst this
    simp at h
    subst h
    exact ⟨rfl, rfl⟩⟩
   simp only at h
   rw [h, List.filter_cons_of_pos hb]
   simp
  ·rw [if_neg hb]
   simp only [Fg]
   rw [bZ (dR (by omega) (by omega))]
   have h := hk ((m, o0, o1, o2, o3, o4, o5), ys) ⟨hm, by simp only; omega, ho⟩
   simp only at h
   rw [h, List.filter_cons_of_neg (by simpa using hb)]
 ·rintro c ⟨⟨m, o0, o1, o2, o3, o4, o5⟩, ys⟩ ⟨hm, hy, ho⟩
  simp only at hm hy ho
  simp only [Fe]
  rw [if_neg (by simp; omega)]
  simp only [R7, List.filter_nil, List.append_nil]
  cases ys with
  | nil => simp [hm, pK]
  | cons y t =>
   cases t with
   | nil =>
    have := ho y rfl
    simp [hm, pK, this.1, this.2]
   | cons z t =>
    have h1 : ¬ m = 0 := by rw [hm]; simp; omega
    have h2 : ¬ m = 1 := by rw [hm]; simp; omega
    simp [h1, h2, pK]
def ru (l : Layout) (done : List Link) (k : Link) : Int :=
 if lq (fD l) (gY k) = false then 4 else if k.A = k.B ∧ k.bY = k.dx then 1 else
 if done.any (fun q => hasB ⟨k.A, k.bY⟩ q && hasB ⟨k.B, k.dx⟩ q) = true then 5 else
 if (!pK k (done.filter (hasB ⟨k.A, k.bY⟩)) || !pK k (done.filter (hasB ⟨k.B, k.dx⟩))) = true then 11 else 0
theorem aeS : ∀ y6 y9 dP y13 mZ iw z : Bool,
  (((((((!y6) || (!(bif (!(!y6)) then y9 else default))) || (!(bif (!((!y6) || (!(bif (!(!y6)) then y9 else default)))) then dP else default))) || (!(bif (!(((!y6) || (!(bif (!(!y6)) then y9 else default))) || (!(bif (!((!y6) || (!(bif (!(!y6)) then y9 else default)))) then dP else default)))) then y13 else default))) || (!(bif (!((((!y6) || (!(bif (!(!y6)) then y9 else default))) || (!(bif (!((!y6) || (!(bif (!(!y6)) then y9 else default)))) then dP else default))) || (!(bif (!(((!y6) || (!(bif (!(!y6)) then y9 else default))) || (!(bif (!((!y6) || (!(bif (!(!y6)) then y9 else default)))) then dP else default)))) then y13 else default)))) then mZ else default))) || (!(bif (!(((((!y6) || (!(bif (!(!y6)) then y9 else default))) || (!(bif (!((!y6) || (!(bif (!(!y6)) then y9 else default)))) then dP else default))) || (!(bif (!(((!y6) || (!(bif (!(!y6)) then y9 else default))) || (!(bif (!((!y6) || (!(bif (!(!y6)) then y9 else default)))) then dP else default)))) then y13 else default))) || (!(bif (!((((!y6) || (!(bif (!(!y6)) then y9 else default))) || (!(bif (!((!y6) || (!(bif (!(!y6)) then y9 else default)))) then dP else default))) || (!(bif (!(((!y6) || (!(bif (!(!y6)) then y9 else default))) || (!(bif (!((!y6) || (!(bif (!(!y6)) then y9 else default)))) then dP else default)))) then y13 else default)))) then mZ else default)))) then iw else default))) || z) = !(y6 && y9 && dP && y13 && mZ && iw && !z) := by decide
theorem afj (l : Layout) (i : Nat) (hi : i < l.Links.length) (hl : l.Links.length ≤ 1000) (hs : l.Sections.length ≤ 1000) (hp : l.bF.length ≤ 1000) : J8 l i = some (ru l (l.Links.take i) l.Links[i]) := by
 have hlt : (l.Links.take i).length = i := by rw [List.length_take]; omega
 unfold J8
 rw [kC, List.getElem?_eq_getElem hi]
 generalize hK : l.Links[i] = k
 simp only [Option.bind_some]
 have hi1 : bP ((l.Sections.length : Int) - 1) = true := dR (by omega) (by omega)
 have hi2 : bP ((l.bF.length : Int) - 1) = true := dR (by omega) (by omega)
 simp only [hi1, hi2, Bool.or_true, bZ rfl, rC, Option.bind_some, GD]
 rw [aeS]
 have hB : ((decide (0 ≤ k.A) && decide (k.A ≤ (l.Sections.length : Int) - 1)) && (decide (0 ≤ k.B) && decide (k.B ≤ (l.Sections.length : Int) - 1)) && (decide (0 ≤ k.bY) && decide (k.bY ≤ 1)) && (decide (0 ≤ k.dx) && decide (k.dx ≤ 1)) && (decide (-1 ≤ k.Point) && decide (k.Point ≤ (l.bF.length : Int) - 1)) && (decide (0 ≤ k.Pos) && decide (k.Pos ≤ 1)) && !(decide (k.Point < 0) && decide (k.Pos ≠ 0))) = lq (fD l) (gY k) := by
  rw [Bool.eq_iff_iff]
  unfold lq gY fD
  simp only [List.length_map, Bool.and_eq_true, Bool.or_eq_true, Bool.not_eq_true', decide_eq_true_eq, Bool.and_eq_false_iff, decide_eq_false_iff_not]
  omega
 rw [hB]
 unfold ru
 by_cases h4 : lq (fD l) (gY k) = false
 ·rw [if_pos (by simp [h4]), if_pos h4]
 ·have h4' : lq (fD l) (gY k) = true := by simpa using h4
  rw [if_neg (by simp [h4']), if_neg h4]
  unfold Ng
  by_cases h1 : k.A = k.B ∧ k.bY = k.dx
  ·rw [if_pos (by simp [h1.1, h1.2]), if_pos h1]
  ·rw [if_neg (by simpa using h1), if_neg h1]
   have := jP (B := Fq i l k) (fun (_ : Unit) j => j) (l.Links.take i) (fun _ _ => True)
    (fun _ r => some (if r.any (fun q => hasB ⟨k.A, k.bY⟩ q && hasB ⟨k.B, k.dx⟩ q) = true then (5 : Int) else if (!pK k ((l.Links.take i).filter (hasB ⟨k.A, k.bY⟩)) || !pK k ((l.Links.take i).filter (hasB ⟨k.B, k.dx⟩))) = true then 11 else 0)) ?_ ?_ FUEL () 0 trivial (by omega) (je (by omega))
   ·simp only [List.drop_zero] at this
    exact this
   ·intro c _ j q r _ hdr hj hq hk
    simp only [Fq]
    rw [hlt] at hj
    rw [if_pos (by simp; omega)]
    have hqj : idx l.Links (j : Int) = some q := by
     rw [kC] at hq ⊢
     rw [List.getElem?_take, if_pos hj] at hq
     exact hq
    rw [hqj]
    simp only [Option.bind_some, VT, GD]
    by_cases h5 : (hasB ⟨k.A, k.bY⟩ q && hasB ⟨k.B, k.dx⟩ q) = true
    ·simp only [Bool.and_eq_true] at h5
     rw [if_pos (by simp [h5.1, h5.2]), if_pos (by simp [h5.1, h5.2])]
    ·have h5' : (hasB ⟨k.A, k.bY⟩ q && hasB ⟨k.B, k.dx⟩ q) = false := by simpa using h5
     rw [if_neg (by
      cases e : hasB ⟨k.A, k.bY⟩ q with
      | false => simp
      | true => rw [e] at h5'; simp at h5' ⊢; exact h5'), bZ (dR (by omega) (by omega)), hk () trivial]
     simp only [List.any_cons, h5', Bool.false_or]
   ·intro c _ _
    simp only [Fq]
    rw [if_neg (by simp; omega)]
    simp only [R9]
    have f1 := VA l i hi hl ⟨k.A, k.bY⟩
    have f2 := VA l i hi hl ⟨k.B, k.dx⟩
    rw [hK] at f1 f2
    rw [f1]
    simp only [Option.bind_some]
    rw [f2, GD]
    simp only [Option.bind_some, List.any_nil, Bool.false_eq_true, if_false]
    generalize pK k ((l.Links.take i).filter (hasB ⟨k.A, k.bY⟩)) = p
    generalize pK k ((l.Links.take i).filter (hasB ⟨k.B, k.dx⟩)) = q
    cases p <;> cases q <;> rfl
theorem afi (l : Layout) (done : List Link) (k : Link) (r : List dY) (hd : ∀ q ∈ done, lq (fD l) (gY q) = true) :
  l7 (fD l) (done.map gY) (gY k :: r) = if ru l done k ≠ 0 then ru l done k else l7 (fD l) ((done ++ [k]).map gY) r := by
 have L : l7 (fD l) (done.map gY) (gY k :: r) = (if lq (fD l) (gY k) = false then 4 else if k.A = k.B ∧ k.bY = k.dx then 1 else
   if (atEnd (done.map gY) (2 * k.A + k.bY)).any (BO k.A k.bY k.B k.dx) = true then 5 else
   if qp (gY k) (atEnd (done.map gY) (2 * k.A + k.bY)) = false ∨ qp (gY k) (atEnd (done.map gY) (2 * k.B + k.dx)) = false then 11 else l7 (fD l) (done.map gY ++ [gY k]) r) := rfl
 rw [L]
 by_cases h4 : lq (fD l) (gY k) = false
 ·have e : ru l done k = 4 := by unfold ru; rw [if_pos h4]
  rw [if_pos h4, e]; rfl
 ·have h4' : lq (fD l) (gY k) = true := by simpa using h4
  rw [if_neg h4]
  have hkk : 0 ≤ k.A ∧ 0 ≤ k.B ∧ (k.bY = 0 ∨ k.bY = 1) ∧ (k.dx = 0 ∨ k.dx = 1) ∧ -1 ≤ k.Point := by
   unfold lq gY at h4'
   simp only [Bool.and_eq_true, Bool.or_eq_true, decide_eq_true_eq] at h4'
   omega
  by_cases h1 : k.A = k.B ∧ k.bY = k.dx
  ·have e : ru l done k = 1 := by unfold ru; rw [if_neg h4, if_pos h1]
   rw [if_pos h1, e]; rfl
  ·rw [if_neg h1]
   have hq : ∀ q ∈ done, 0 ≤ q.A ∧ 0 ≤ q.B ∧ (q.bY = 0 ∨ q.bY = 1) ∧ (q.dx = 0 ∨ q.dx = 1) := by
    intro q hm
    have := hd q hm
    unfold lq gY at this
    simp only [Bool.and_eq_true, Bool.or_eq_true, decide_eq_true_eq] at this
    omega
   have Pq : ∀ (a e : Int), 0 ≤ a → (e = 0 ∨ e = 1) → atEnd (done.map gY) (2 * a + e) = (done.filter (hasB ⟨a, e⟩)).map gY := by
    intro a e ha he
    unfold atEnd
    rw [List.filter_map]
    congr 1
    refine List.filter_congr fun q hm => ?_
    have := hq q hm
    rw [Bool.eq_iff_iff]
    show (decide (2 * q.A + q.bY = 2 * a + e) || decide (2 * q.B + q.dx = 2 * a + e)) = true ↔ ((decide (q.A = a) && decide (q.bY = e)) || (decide (q.B = a) && decide (q.dx = e))) = true
    simp only [Bool.or_eq_true, Bool.and_eq_true, decide_eq_true_eq]
    omega
   have fit : ∀ ys : List Link, qp (gY k) (ys.map gY) = pK k ys := by
    intro ys
    cases ys with
    | nil => rfl
    | cons y t =>
     cases t with
     | nil =>
      rw [Bool.eq_iff_iff]
      show ((decide (k.Point ≠ -1) && decide (k.Point = y.Point)) && decide (k.Pos ≠ y.Pos)) = true ↔ ((decide (0 ≤ k.Point) && decide (y.Point = k.Point)) && decide (y.Pos ≠ k.Pos)) = true
      simp only [Bool.and_eq_true, decide_eq_true_eq]
      omega
     | cons z t => rfl
   have e5 : ((atEnd (done.map gY) (2 * k.A + k.bY)).any (BO k.A k.bY k.B k.dx) = true) ↔ (done.any (fun q => hasB ⟨k.A, k.bY⟩ q && hasB ⟨k.B, k.dx⟩ q) = true) := by
    rw [Pq k.A k.bY hkk.1 hkk.2.2.1, List.any_map, List.any_filter]
    simp only [List.any_eq_true]
    constructor
    ·rintro ⟨q, hm, hj⟩
     refine ⟨q, hm, ?_⟩
     have hj' : (((decide (q.A = k.A) && decide (q.bY = k.bY)) || (decide (q.B = k.A) && decide (q.dx = k.bY))) && ((decide (k.A = q.A ∧ k.bY = q.bY) && decide (k.B = q.B ∧ k.dx = q.dx)) || (decide (k.A = q.B ∧ k.bY = q.dx) && decide (k.B = q.A ∧ k.dx = q.bY)))) = true := hj
     show (((decide (q.A = k.A) && decide (q.bY = k.bY)) || (decide (q.B = k.A) && decide (q.dx = k.bY))) && ((decide (q.A = k.B) && decide (q.bY = k.dx)) || (decide (q.B = k.B) && decide (q.dx = k.dx)))) = true
     simp only [Bool.or_eq_true, Bool.and_eq_true, decide_eq_true_eq] at hj' ⊢
     omega
    ·rintro ⟨q, hm, hj⟩
     refine ⟨q, hm, ?_⟩
     have hj' : (((decide (q.A = k.A) && decide (q.bY = k.bY)) || (decide (q.B = k.A) && decide (q.dx = k.bY))) && ((decide (q.A = k.B) && decide (q.bY = k.dx)) || (decide (q.B = k.B) && decide (q.dx = k.dx)))) = true := hj
     show (((decide (q.A = k.A) && decide (q.bY = k.bY)) || (decide (q.B = k.A) && decide (q.dx = k.bY))) && ((decide (k.A = q.A ∧ k.bY = q.bY) && decide (k.B = q.B ∧ k.dx = q.dx)) || (decide (k.A = q.B ∧ k.bY = q.dx) && decide (k.B = q.A ∧ k.dx = q.bY)))) = true
     simp only [Bool.or_eq_true, Bool.and_eq_true, decide_eq_true_eq] at hj' ⊢
     omega
   by_cases h5 : done.any (fun q => hasB ⟨k.A, k.bY⟩ q && hasB ⟨k.B, k.dx⟩ q) = true
   ·have e : ru l done k = 5 := by unfold ru; rw [if_neg h4, if_neg h1, if_pos h5]
    rw [if_pos (e5.2 h5), e]; rfl
   ·have e : ru l done k = if (!pK k (done.filter (hasB ⟨k.A, k.bY⟩)) || !pK k (done.filter (hasB ⟨k.B, k.dx⟩))) = true then 11 else 0 := by unfold ru; rw [if_neg h4, if_neg h1, if_neg h5]
    rw [if_neg (fun h => h5 (e5.1 h)), e]
    rw [Pq _ _ hkk.1 hkk.2.2.1, Pq _ _ hkk.2.1 hkk.2.2.2.1, fit, fit]
    generalize pK k (done.filter (hasB ⟨k.A, k.bY⟩)) = p
    generalize pK k (done.filter (hasB ⟨k.B, k.dx⟩)) = q
    rw [List.map_append]
    cases p <;> cases q <;> rfl
theorem afm (l : Layout) (hl : l.Links.length ≤ 1000) (hs : l.Sections.length ≤ 1000) (hp : l.bF.length ≤ 1000) : M6 l () = some (l7 (fD l) [] (l.Links.map gY)) := by
 unfold M6
 have := jP (B := EY l) (fun (_ : List Link) j => j) l.Links (fun s i => s = l.Links.take i ∧ ∀ q ∈ s, lq (fD l) (gY q) = true) (fun s r => some (l7 (fD l) (s.map gY) (r.map gY))) ?_ ?_ FUEL [] 0 ⟨rfl, fun q h => by simp at h⟩ (by omega) (je (by omega))
 ·simpa using this
 ·rintro c s i k r ⟨hs', hq⟩ hdr hi hx hk
  simp only [EY]
  have hki : l.Links[i] = k := by
   rw [kC, List.getElem?_eq_getElem hi] at hx
   exact Option.some.inj hx
  rw [if_pos (by simp; omega), afj l i hi hl hs hp, hki, ← hs']
  simp only [Option.bind_some, List.map_cons]
  rw [afi l s k _ hq]
  by_cases h0 : ru l s k = 0
  ·rw [if_neg (by simp [h0]), if_neg (by simp [h0]), bZ (dR (by omega) (by omega))]
   have hb : lq (fD l) (gY k) = true := by
    unfold ru at h0
    by_cases h4 : lq (fD l) (gY k) = false
    ·rw [if_pos h4] at h0; cases h0
    ·simpa using h4
   exact hk (s ++ [k]) ⟨by rw [hs', List.take_succ_eq_append_getElem hi, hki], fun q hm => by
    rcases List.mem_append.1 hm with h | h
    ·exact hq q h
    ·simp at h; rw [h]; exact hb⟩
  ·rw [if_pos (by simp [h0]), if_pos h0]
 ·rintro c s ⟨hs', _⟩
  simp only [EY]
  rw [if_neg (by simp)]
  rfl
theorem Xo {B : (Nat → Option Int) → Nat → Option Int} (l : List Str) (K : Option Int) (hl : l.length ≤ 1000)
  (hB : ∀ c i, B c i = if decide ((i : Int) < (l.length : Int)) then ((Aj l (i : Int)).bind fun y => if decide (y ≠ 0) then (some y) else (bM (bP ((i : Int) + 1)) <| c (i + 1))) else K) :
  iter B FUEL 0 = if iC [] (l.map Str.ba) ≠ 0 then some (iC [] (l.map Str.ba)) else K := by
 have := jP (B := B) (fun (_ : List Str) j => j) l (fun s i => s = l.take i) (fun s r => if iC (s.map Str.ba) (r.map Str.ba) ≠ 0 then some (iC (s.map Str.ba) (r.map Str.ba)) else K) ?_ ?_ FUEL [] 0 rfl (by omega) (je (by omega))
 ·simpa using this
 ·intro c s i x r hs hdr hi hx hk
  have hxi : l[i] = x := by
   rw [kC, List.getElem?_eq_getElem hi] at hx
   exact Option.some.inj hx
  rw [hB, if_pos (by simp; omega), Xq l i hi hl, hxi, ← hs]
  simp only [Option.bind_some, List.map_cons, iC]
  by_cases h0 : jR x.ba (s.map Str.ba) = 0
  ·rw [if_neg (by simp [h0]), bZ (dR (by omega) (by omega)), hk (s ++ [x]) (by rw [hs, List.take_succ_eq_append_getElem hi, hxi])]
   simp [h0]
  ·rw [if_pos (by simp [h0])]
   simp [h0]
 ·intro c s _
  rw [hB, if_neg (by simp)]
  simp [iC]
theorem ahi (l : Layout) (hl : l.Links.length ≤ 1000) (hs : l.Sections.length ≤ 1000) (hp : l.bF.length ≤ 1000) (ht : l.aX.length ≤ 1000) :
  JZ l () = if kg l.aX.length [] (l.Sections.map nQ) ≠ 0 then some (kg l.aX.length [] (l.Sections.map nQ)) else some (l7 (fD l) [] (l.Links.map gY)) := by
 unfold JZ
 rw [ahf l hs]
 simp only [Option.bind_some]
 have := jP (B := EX l (l.Sections.map (·.Name))) (fun (_ : List Section) j => j) l.Sections (fun s i => s = l.Sections.take i)
  (fun s r => if kg l.aX.length (s.map (·.Name.ba)) (r.map nQ) ≠ 0 then some (kg l.aX.length (s.map (·.Name.ba)) (r.map nQ)) else some (l7 (fD l) [] (l.Links.map gY))) ?_ ?_ FUEL [] 0 rfl (by omega) (je (by omega))
 ·simpa using this
 ·intro c s i x r hs' hdr hi hx hk
  have hxi : l.Sections[i] = x := by
   rw [kC, List.getElem?_eq_getElem hi] at hx
   exact Option.some.inj hx
  simp only [EX]
  have hn := Xq (l.Sections.map (·.Name)) i (by simpa using hi) (by simpa using hs)
  have hnm : ((l.Sections.map (·.Name)).take i).map Str.ba = s.map (·.Name.ba) := by rw [← List.map_take, ← hs', List.map_map]; rfl
  rw [hnm] at hn
  simp only [List.getElem_map, hxi] at hn
  rw [if_pos (by simp; omega), hn]
  simp only [Option.bind_some, List.map_cons, kg]
  have hsn : (nQ x).name = x.Name.ba := rfl
  rw [hsn]
  by_cases h0 : jR x.Name.ba (s.map (·.Name.ba)) = 0
  ·rw [if_neg (by simp [h0]), hx]
   have hi2 : bP ((l.aX.length : Int) - 1) = true := dR (by omega) (by omega)
   simp only [hi2, Bool.or_true, bZ rfl, rC, Option.bind_some, GD]
   have hB : ((((!(decide (1 ≤ x.Length) && decide (x.Length ≤ 400))) || (!(bif (!(!(decide (1 ≤ x.Length) && decide (x.Length ≤ 400)))) then (decide (1000 ≤ x.Limit) && decide (x.Limit ≤ 100000)) else default))) || (!(bif (!((!(decide (1 ≤ x.Length) && decide (x.Length ≤ 400))) || (!(bif (!(!(decide (1 ≤ x.Length) && decide (x.Length ≤ 400)))) then (decide (1000 ≤ x.Limit) && decide (x.Limit ≤ 100000)) else default)))) then (decide ((-40) ≤ x.iE) && decide (x.iE ≤ 40)) else default))) || (!(bif (!(((!(decide (1 ≤ x.Length) && decide (x.Length ≤ 400))) || (!(bif (!(!(decide (1 ≤ x.Length) && decide (x.Length ≤ 400)))) then (decide (1000 ≤ x.Limit) && decide (x.Limit ≤ 100000)) else default))) || (!(bif (!((!(decide (1 ≤ x.Length) && decide (x.Length ≤ 400))) || (!(bif (!(!(decide (1 ≤ x.Length) && decide (x.Length ≤ 400)))) then (decide (1000 ≤ x.Limit) && decide (x.Limit ≤ 100000)) else default)))) then (decide ((-40) ≤ x.iE) && decide (x.iE ≤ 40)) else default)))) then (decide ((-1) ≤ x.mE) && decide (x.mE ≤ (l.aX.length : Int) - 1)) else default))) = !tV l.aX.length (nQ x) := by
    have ch : ∀ a b d e : Bool, ((((!a) || (!(bif (!(!a)) then b else default))) || (!(bif (!((!a) || (!(bif (!(!a)) then b else default)))) then d else default))) || (!(bif (!(((!a) || (!(bif (!(!a)) then b else default))) || (!(bif (!((!a) || (!(bif (!(!a)) then b else default)))) then d else default)))) then e else default))) = !(a && b && d && e) := by decide
    rw [ch]
    congr 1
    rw [Bool.eq_iff_iff]
    unfold tV nQ
    simp only [Bool.and_eq_true, decide_eq_true_eq]
    omega
   rw [hB]
   by_cases h4 : tV l.aX.length (nQ x) = false
   ·rw [if_pos (by simp [h4])]
    simp [h0, h4]
   ·have h4' : tV l.aX.length (nQ x) = true := by simpa using h4
    rw [if_neg (by simp [h4']), bZ (dR (by omega) (by omega)), hk (s ++ [x]) (by rw [hs', List.take_succ_eq_append_getElem hi, hxi])]
    simp [h0, h4']
  ·rw [if_pos (by simp [h0])]
   simp [h0]
 ·intro c s _
  simp only [EX]
  rw [if_neg (by simp), afm l hl hs hp]
  simp [kg]
theorem Vf (l : Layout) : Cm l = some (jD (fD l)) := by
 unfold Cm jD
 by_cases hf : pR (fD l) = true
 ·rw [if_pos hf]
  unfold pR fD at hf
  simp only [List.length_map, decide_eq_true_eq] at hf
  rw [if_pos (by simp; omega)]
 ·rw [if_neg hf]
  unfold pR fD at hf
  simp only [List.length_map, decide_eq_true_eq] at hf
  rw [if_neg (by simp; omega)]
  have h0' : (fD l).sections.length = l.Sections.length := by simp [fD]
  by_cases h0 : l.Sections.length = 0
  ·rw [if_pos (by simp [h0]), if_pos (by rw [h0']; exact h0)]
  ·have h0i : ¬ ((l.Sections.length : Int) = 0) := by omega
   rw [if_neg (by rw [decide_eq_true_eq]; exact h0i), if_neg (by rw [h0']; exact h0)]
   rw [Xo (B := M0 l) l.aX (M5 l ()) (by omega) (fun c i => rfl)]
   have e1 : (fD l).kW = l.aX.map Str.ba := rfl
   have e2 : (fD l).points = l.bF.map Str.ba := rfl
   have e3 : (fD l).sections = l.Sections.map nQ := rfl
   have e4 : (fD l).links = l.Links.map gY := rfl
   rw [e1, e2, e3, e4, List.length_map]
   by_cases hn : iC [] (l.aX.map Str.ba) = 0
   ·rw [if_neg (by simp [hn]), if_neg (by simp [hn])]
    unfold M5
    rw [Xo (B := M4 l) l.bF (JZ l ()) (by omega) (fun c i => rfl)]
    by_cases hn2 : iC [] (l.bF.map Str.ba) = 0
    ·rw [if_neg (by simp [hn2]), if_neg (by simp [hn2]), ahi l (by omega) (by omega) (by omega) (by omega)]
     by_cases Mx : kg l.aX.length [] (l.Sections.map nQ) = 0
     ·rw [if_neg (by simp [Mx]), if_neg (by simp [Mx])]
     ·rw [if_pos Mx, if_pos Mx]
    ·rw [if_pos hn2, if_pos hn2]
   ·rw [if_pos hn, if_pos hn]
end Go.Proofs.YtcalibhfgdncaaaGreatDoor
namespace Go.Proofs.YtcalibhfgdncaaaGreatDoor
open Go.Dc
theorem QX (L : Lay) : ∀ (ks done : List dY), l7 L done ks = 0 → ∀ k ∈ ks, lq L k = true ∧ ¬ (k.a = k.b ∧ k.ji = k.jG)
 | [], _, _, k, hm => by simp at hm
 | q :: ks, done, h, k, hm => by
  unfold l7 at h
  by_cases h4 : lq L q = false
  ·rw [if_pos h4] at h; cases h
  ·rw [if_neg h4] at h
   by_cases h1 : q.a = q.b ∧ q.ji = q.jG
   ·rw [if_pos h1] at h; cases h
   ·rw [if_neg h1] at h
    split at h
    ·cases h
    ·split at h
     ·cases h
     ·rcases List.mem_cons.1 hm with e | e
      ·subst e; exact ⟨by simpa using h4, h1⟩
      ·exact QX L ks _ h k e
theorem SY (n : Nat) : ∀ (ss : List jM) (seen : List ByteArray), kg n seen ss = 0 → ∀ s ∈ ss, tV n s = true
 | [], _, _, s, hm => by simp at hm
 | q :: ss, seen, h, s, hm => by
  unfold kg at h
  by_cases h1 : jR q.name seen ≠ 0
  ·rw [if_pos h1] at h; exact absurd h h1
  ·rw [if_neg h1] at h
   by_cases h4 : tV n q = false
   ·rw [if_pos h4] at h; cases h
   ·rw [if_neg h4] at h
    rcases List.mem_cons.1 hm with e | e
    ·subst e; simpa using h4
    ·exact SY n ss _ h s e
structure Val (l : Layout) : Prop where
 full : l.aX.length ≤ 24 ∧ l.bF.length ≤ 48 ∧ l.Sections.length ≤ 96 ∧ l.Links.length ≤ 192 ∧ 0 < l.Sections.length
 secs : ∀ s ∈ l.Sections, 1 ≤ s.Length ∧ s.Length ≤ 400 ∧ 1000 ≤ s.Limit ∧ s.Limit ≤ 100000 ∧ -40 ≤ s.iE ∧ s.iE ≤ 40
 links : ∀ k ∈ l.Links, (0 ≤ k.A ∧ k.A < l.Sections.length) ∧ (0 ≤ k.B ∧ k.B < l.Sections.length) ∧ (k.bY = 0 ∨ k.bY = 1) ∧ (k.dx = 0 ∨ k.dx = 1) ∧ (-1 ≤ k.Point ∧ k.Point < l.bF.length) ∧ ¬ (k.A = k.B ∧ k.bY = k.dx)
theorem Og {l : Layout} (h : jD (fD l) = 0) : Val l := by
 have hf := O5 h
 unfold jD at h
 split at h
 ·cases h
 split at h
 ·cases h
 split at h
 ·rename_i h1; exact absurd h h1
 split at h
 ·rename_i h1; exact absurd h h1
 split at h
 ·rename_i h1; exact absurd h h1
 rename_i hs
 simp only [Decidable.not_not] at hs
 refine ⟨hf, fun s hm => ?_, fun k hm => ?_⟩
 ·have := SY _ _ _ hs (nQ s) (List.mem_map.2 ⟨s, hm, rfl⟩)
  unfold tV nQ at this
  simp only [Bool.and_eq_true, decide_eq_true_eq] at this
  omega
 ·have := QX _ _ _ h (gY k) (List.mem_map.2 ⟨k, hm, rfl⟩)
  have h1 := this.1
  have h2 : ¬ (k.A = k.B ∧ k.bY = k.dx) := this.2
  unfold lq gY fD at h1
  simp only [List.length_map, Bool.and_eq_true, Bool.or_eq_true, decide_eq_true_eq] at h1
  exact ⟨by omega, by omega, by omega, by omega, by omega, h2⟩
def BA (k : Link) (x y : Int) : Option Hop := if 0 ≤ x then some ⟨⟨x, if y = 1 then 1 else 0⟩, k.Point, k.Pos⟩ else none
def sF (s : Step) (k : Link) : Option Hop :=
 if k.A = s.Section ∧ k.bY = (if s.Dir = 1 then 0 else 1) then BA k k.B k.dx
 else if k.B = s.Section ∧ k.dx = (if s.Dir = 1 then 0 else 1) then BA k k.A k.bY else none
def BD (l : Layout) (s : Step) : List Hop := l.Links.filterMap (sF s)
theorem Qv (lh : List Hop) (k : Link) (i : Nat) (c : (List Hop × Nat) → Option (List Hop)) (x y : Int) (hl : lh.length ≤ 1000) (hi : i ≤ 1000) :
  wT lh k i c (x, y) = c (lh ++ (BA k x y).toList, i + 1) := by
 simp only [wT, BA]
 by_cases h0 : 0 ≤ x
 ·rw [if_pos (by simpa using h0), if_pos h0]
  by_cases h1 : y = 1
  ·rw [if_pos (by simpa using h1), if_pos h1]
   simp only [E9, Co]
   rw [bZ (by simp; omega), bZ (dR (by omega) (by omega))]
   rfl
  ·rw [if_neg (by simpa using h1), if_neg h1]
   simp only [E9, Co]
   rw [bZ (by simp; omega), bZ (dR (by omega) (by omega))]
   rfl
 ·rw [if_neg (by simpa using h0), if_neg h0]
  simp only [Co]
  rw [bZ (dR (by omega) (by omega))]
  simp
theorem ac4 (l : Layout) (s : Step) (hl : l.Links.length ≤ 1000) : J3 l s = some (BD l s) := by
 have key : ∀ e : Int, e = (if s.Dir = 1 then 0 else 1) → E8 l s e = some (BD l s) := by
  intro e he
  unfold E8 BD
  have := jP (B := E5 l s e) (fun (q : List Hop) i => (q, i)) l.Links (fun q i => q.length ≤ i) (fun q r => some (q ++ r.filterMap (sF s))) ?_ ?_ FUEL [] 0 (by simp) (by omega) (je (by omega))
  ·simpa using this
  ·intro c q i k r hq hdr hi hx hk
   simp only [E5]
   rw [if_pos (by simp; omega), hx, Option.bind_some]
   have hh : (if (decide (k.A = s.Section) && decide (k.bY = e)) = true then wT q k i c (k.B, k.dx) else if (decide (k.B = s.Section) && decide (k.dx = e)) = true then wT q k i c (k.A, k.bY) else wT q k i c (-1, 0)) = c (q ++ (sF s k).toList, i + 1) := by
    unfold sF
    rw [← he]
    by_cases h1 : k.A = s.Section ∧ k.bY = e
    ·rw [if_pos (by simpa using h1), if_pos h1, Qv _ _ _ _ _ _ (by omega) (by omega)]
    ·rw [if_neg (by simpa using h1), if_neg h1]
     by_cases h2 : k.B = s.Section ∧ k.dx = e
     ·rw [if_pos (by simpa using h2), if_pos h2, Qv _ _ _ _ _ _ (by omega) (by omega)]
     ·rw [if_neg (by simpa using h2), if_neg h2, Qv _ _ _ _ _ _ (by omega) (by omega)]
      rfl
   rw [hh, hk _ (by cases sF s k <;> simp <;> omega)]
   cases h : sF s k with
   | none => simp [List.filterMap_cons, h]
   | some z => simp [List.filterMap_cons, h]
  ·intro c q _
   simp only [E5]
   rw [if_neg (by simp)]
   simp [RN]
 unfold J3
 by_cases h1 : s.Dir = 1
 ·rw [if_pos (by simpa using h1)]; exact key 0 (by rw [if_pos h1])
 ·rw [if_neg (by simpa using h1)]; exact key 1 (by rw [if_neg h1])
def DR (l : Layout) (a b : Step) : Hop × Bool :=
 match (BD l a).find? (fun h => decide (h.To = b)) with
 | some h => (h, true)
 | none => (Hop.mk (Step.mk 0 0) 0 0, false)
theorem ae7 (l : Layout) (a b : Step) (hl : l.Links.length ≤ 1000) : Kg l a b = some (DR l a b) := by
 unfold Kg DR
 rw [ac4 l a hl, Option.bind_some]
 have hlen : (BD l a).length ≤ 1000 := Nat.le_trans (List.length_filterMap_le _ _) hl
 generalize BD l a = hs at hlen
 have := jP (B := FH hs b) (fun (_ : Unit) i => i) hs (fun _ _ => True) (fun _ r => some (match r.find? (fun h => decide (h.To = b)) with | some h => (h, true) | none => (Hop.mk (Step.mk 0 0) 0 0, false))) ?_ ?_ FUEL () 0 trivial (by omega) (je (by omega))
 ·simpa using this
 ·intro c _ i x r _ hdr hi hx hk
  simp only [FH]
  rw [if_pos (by simp; omega), hx, Option.bind_some, Option.bind_some]
  by_cases h : x.To = b
  ·rw [if_pos (by simpa using h)]
   simp [List.find?_cons, h]
  ·rw [if_neg (by simpa using h), bZ (dR (by omega) (by omega)), hk () trivial]
   simp [List.find?_cons, h]
 ·intro c _ _
  simp only [FH]
  rw [if_neg (by simp)]
  rfl
theorem ae6 {l : Layout} (v : Val l) {a b : Step} (ha : gM l a = true) (hb : gM l b = true) : tr l a b = ((DR l a b).1.Point, (DR l a b).2) := by
 unfold gM at ha hb
 simp only [Bool.and_eq_true, Bool.or_eq_true, decide_eq_true_eq] at ha hb
 unfold tr DR BD
 have key : ∀ ks : List Link, (∀ k ∈ ks, k ∈ l.Links) → Gx (lQ a) (lQ (tO b)) ks = (match (ks.filterMap (sF a)).find? (fun h => decide (h.To = b)) with | some h => (h.Point, true) | none => (0, false)) := by
  intro ks
  induction ks with
  | nil => intro _; rfl
  | cons k ks ih =>
   intro hk
   have vk := v.links k (hk k List.mem_cons_self)
   have ih' := ih (fun q h => hk q (List.mem_cons_of_mem _ h))
   have hl1 : lQ a = ⟨a.Section, if a.Dir = 1 then 0 else 1⟩ := by
    unfold lQ
    rcases ha.2 with h | h
    ·rw [if_pos h, if_neg (by omega)]
    ·rw [if_neg (by omega), if_pos h]
   have hl2 : lQ (tO b) = ⟨b.Section, b.Dir⟩ := by
    unfold lQ tO
    rcases hb.2 with h | h
    ·simp [h]
    ·simp [h]
   have hstep : ∀ (x y : Int), (y = 0 ∨ y = 1) → ((Step.mk x (if y = 1 then 1 else 0) = b) ↔ (x = b.Section ∧ y = b.Dir)) := by
    intro x y hy
    obtain ⟨bs, bd⟩ := b
    simp only [Step.mk.injEq]
    rcases hy with h | h <;> simp [h]
   have hj : DT (lQ a) (lQ (tO b)) k = true ↔ ∃ h, sF a k = some h ∧ h.To = b := by
    rw [hl1, hl2]
    unfold DT
    simp only [Bool.or_eq_true, Bool.and_eq_true, decide_eq_true_eq, jB.mk.injEq]
    unfold sF BA
    by_cases h1 : k.A = a.Section ∧ k.bY = (if a.Dir = 1 then 0 else 1)
    ·rw [if_pos h1, if_pos vk.2.1.1]
     simp only [Option.some.injEq, exists_eq_left']
     rw [hstep _ _ vk.2.2.2.1]
     constructor
     ·rintro (⟨_, h⟩ | ⟨h2, h3⟩)
      ·exact h
      ·exact absurd ⟨h1.1.trans h3.1.symm, h1.2.trans h3.2.symm⟩ vk.2.2.2.2.2
     ·intro h; exact .inl ⟨h1, h⟩
    ·rw [if_neg h1]
     by_cases h2 : k.B = a.Section ∧ k.dx = (if a.Dir = 1 then 0 else 1)
     ·rw [if_pos h2, if_pos vk.1.1]
      simp only [Option.some.injEq, exists_eq_left']
      rw [hstep _ _ vk.2.2.1]
      constructor
      ·rintro (⟨h, _⟩ | ⟨h, _⟩)
       ·exact absurd h h1
       ·exact h
      ·intro h; exact .inr ⟨h, h2⟩
     ·rw [if_neg h2]
      simp only [reduceCtorEq, false_and, exists_false, iff_false]
      rintro (⟨h, _⟩ | ⟨_, h⟩)
      ·exact h1 h
      ·exact h2 h
   have ht : ∀ x y h, BA k x y = some h → h.Point = k.Point := by
    intro x y h e
    unfold BA at e
    by_cases h0 : 0 ≤ x
    ·rw [if_pos h0] at e; cases e; rfl
    ·rw [if_neg h0] at e; cases e
   have hp : ∀ h, sF a k = some h → h.Point = k.Point := by
    intro h e
    unfold sF at e
    by_cases h1 : k.A = a.Section ∧ k.bY = (if a.Dir = 1 then 0 else 1)
    ·rw [if_pos h1] at e; exact ht _ _ _ e
    ·rw [if_neg h1] at e
     by_cases h2 : k.B = a.Section ∧ k.dx = (if a.Dir = 1 then 0 else 1)
     ·rw [if_pos h2] at e; exact ht _ _ _ e
     ·rw [if_neg h2] at e; cases e
   simp only [Gx]
   by_cases hjk : DT (lQ a) (lQ (tO b)) k = true
   ·rw [if_pos hjk]
    obtain ⟨h, e1, e2⟩ := hj.1 hjk
    rw [List.filterMap_cons, e1]
    simp [List.find?_cons, e2, hp h e1]
   ·rw [if_neg hjk, ih', List.filterMap_cons]
    cases e : sF a k with
    | none => rfl
    | some h =>
     have hne : ¬ h.To = b := fun e2 => hjk (hj.2 ⟨h, e, e2⟩)
     simp [List.find?_cons, hne]
 rw [key l.Links (fun k h => h)]
 cases (l.Links.filterMap (sF a)).find? (fun h => decide (h.To = b)) <;> rfl
end Go.Proofs.YtcalibhfgdncaaaGreatDoor
namespace Go.Proofs.YtcalibhfgdncaaaGreatDoor
open Go.Dc
theorem cr4 {l : Layout} (v : Val l) (r : aV) (h2 : 2 ≤ r.Steps.length) (nJ : r.Steps.length ≤ 24) (ha : r.Steps.all (gM l) = true) : Nj r l () = some (qF l r).2 := by
 have hl : l.Links.length ≤ 1000 := by have := v.full; omega
 unfold Nj
 obtain ⟨a, rest, hS⟩ : ∃ a rest, r.Steps = a :: rest := by
  cases h : r.Steps with
  | nil => rw [h] at h2; simp at h2
  | cons a rest => exact ⟨a, rest, rfl⟩
 have := jP (B := FC r l) (fun (_ : Step) i => i) r.Steps (fun p i => 1 ≤ i ∧ r.Steps[i - 1]? = some p ∧ gM l p = true)
  (fun p q => some (match wR l p q with | none => (11 : Int) | some _ => 0)) ?_ ?_ FUEL a 1 ⟨by omega, by rw [hS]; rfl, List.all_eq_true.1 ha a (by rw [hS]; exact List.mem_cons_self)⟩ (by omega) (je (by omega))
 ·rw [this, hS]
  unfold qF MS
  rw [hS]
  simp only [List.drop_succ_cons, List.drop_zero]
  cases wR l a rest <;> rfl
 ·rintro c p i x q ⟨h1, hp, hps⟩ hdr hi hx hk
  have hm : x ∈ r.Steps := List.mem_of_mem_drop (i := i) (by rw [hdr]; exact List.mem_cons_self)
  have hxs : gM l x = true := List.all_eq_true.1 ha x hm
  simp only [FC]
  have hp' : idx r.Steps ((i : Int) - 1) = some p := by
   rw [show (i : Int) - 1 = ((i - 1 : Nat) : Int) by omega, kC]; exact hp
  rw [if_pos (by simp; omega), bZ (dR (by omega) (by omega)), hp', Option.bind_some, hx, Option.bind_some, ae7 l p x hl, Option.bind_some]
  have ht := ae6 v hps hxs
  unfold Nk
  have h2' : (tr l p x).2 = (DR l p x).2 := by rw [ht]
  rw [← h2']
  simp only [wR]
  by_cases hb : (tr l p x).2 = true
  ·rw [if_neg (by simp [hb]), if_pos hb, bZ (dR (by omega) (by omega)), hk x ⟨by omega, by rw [Nat.add_sub_cancel]; rw [kC] at hx; exact hx, hxs⟩]
   cases wR l x q <;> rfl
  ·have hb' : (tr l p x).2 = false := by simpa using hb
   rw [if_pos (by simp [hb']), if_neg hb]
 ·rintro c p ⟨_, _, _⟩
  simp only [FC]
  rw [if_neg (by simp)]
  rfl
theorem cr3 (r : aV) (i : Nat) (hi : i < r.Steps.length) (nJ : r.Steps.length ≤ 24) (c : Nat → Option Int) :
  iter (Cr i r c) FUEL 0 = if r.Steps[i].Section ∈ (r.Steps.take i).map (·.Section) then some 5 else c (i + 1) := by
 have hlt : (r.Steps.take i).length = i := by rw [List.length_take]; omega
 have := jP (B := Cr i r c) (fun (_ : Unit) k => k) (r.Steps.take i) (fun _ _ => True) (fun _ q => if r.Steps[i].Section ∈ q.map (·.Section) then some 5 else c (i + 1)) ?_ ?_ FUEL () 0 trivial (by omega) (je (by omega))
 ·simpa using this
 ·intro c3 _ k x q _ hdr hk hx hc
  rw [hlt] at hk
  have hxk : idx r.Steps (k : Int) = some x := by
   rw [kC] at hx ⊢
   rw [List.getElem?_take, if_pos hk] at hx
   exact hx
  simp only [Cr]
  rw [if_pos (by simp; omega), hxk, Option.bind_some, kC, List.getElem?_eq_getElem hi, Option.bind_some]
  by_cases e : x.Section = r.Steps[i].Section
  ·rw [if_pos (by simpa using e), if_pos (by simp [e])]
  ·rw [if_neg (by simpa using e), bZ (dR (by omega) (by omega)), hc () trivial]
   have e' : ¬ r.Steps[i].Section = x.Section := fun h => e h.symm
   simp [e']
 ·intro c3 _ _
  simp only [Cr]
  rw [if_neg (by simp; omega)]
  simp only [Sm]
  rw [bZ (dR (by omega) (by omega))]
  simp
theorem cr2 {l : Layout} (v : Val l) (r : aV) (h2 : 2 ≤ r.Steps.length) (nJ : r.Steps.length ≤ 24) (ha : r.Steps.all (gM l) = true) :
  Ni r l () = some (if mP [] r.Steps = true then (5 : Int) else (qF l r).2) := by
 unfold Ni
 have := jP (B := FB r l) (fun (_ : List Int) k => k) r.Steps (fun s i => ∀ z, z ∈ s ↔ z ∈ (r.Steps.take i).map (·.Section)) (fun s q => some (if mP s q = true then (5 : Int) else (qF l r).2)) ?_ ?_ FUEL [] 0 (by simp) (by omega) (je (by omega))
 ·simpa using this
 ·intro c s i x q hs hdr hi hx hk
  have hxi : r.Steps[i] = x := by
   rw [kC, List.getElem?_eq_getElem hi] at hx
   exact Option.some.inj hx
  simp only [FB]
  rw [if_pos (by simp; omega), cr3 r i hi nJ, hxi]
  have hdd : mP s (x :: q) = (decide (x.Section ∈ s) || mP (x.Section :: s) q) := rfl
  by_cases hm : x.Section ∈ s
  ·rw [if_pos ((hs _).1 hm), if_pos (show mP s (x :: q) = true by rw [hdd]; simp [hm])]
  ·rw [if_neg (fun h => hm ((hs _).2 h)), hk (x.Section :: s) (fun z => by
    rw [List.take_succ_eq_append_getElem hi, hxi, List.map_append, List.mem_append, List.mem_cons, ← hs z]
    simp [or_comm]), hdd]
   simp [hm]
 ·intro c s _
  simp only [FB]
  rw [if_neg (by simp), cr4 v r h2 nJ ha]
  simp [mP]
theorem O4 (l : Layout) (r : aV) : Ct l r = some (gU l r).2 := by
 unfold Ct
 rw [Vf, Option.bind_some]
 by_cases hc : jD (fD l) = 0
 ·have v := Og hc
  have hf := v.full
  have n1 : ¬ jD (fD l) ≠ 0 := by simp [hc]
  rw [if_neg (by simp [hc])]
  by_cases nJ : 24 < r.Steps.length ∨ 2 < r.Overlap
  ·have e : gU l r = ([], 7) := by unfold gU; rw [if_neg n1, if_pos nJ]
   rw [e, if_pos (by simp; omega)]
  ·rw [if_neg (by simp; omega)]
   by_cases h2 : r.Overlap < 0 ∨ (r.Steps.length : Int) - r.Overlap < 2
   ·have e : gU l r = ([], 4) := by unfold gU; rw [if_neg n1, if_neg nJ, if_pos h2]
    rw [e, bZ (by simp [bP]; omega), if_pos (by simpa using h2)]
   ·have e : gU l r = if r.Steps.all (gM l) = false then ([], 4) else if mP [] r.Steps = true then ([], 5) else qF l r := by unfold gU; rw [if_neg n1, if_neg nJ, if_neg h2]
    rw [e, bZ (by simp [bP]; omega), if_neg (by simpa using h2)]
    have := jP (B := Fz r l) (fun (_ : Unit) i => i) r.Steps (fun _ i => (r.Steps.take i).all (gM l) = true)
     (fun _ q => some (if q.all (gM l) = false then (([] : List Int), (4 : Int)) else if mP [] r.Steps = true then ([], 5) else qF l r).2) ?_ ?_ FUEL () 0 (by simp) (by omega) (je (by omega))
    ·simp only [List.drop_zero] at this
     exact this
    ·intro c _ i x q hI hdr hi hx hk
     simp only [Fz]
     rw [if_pos (by simp; omega), hx, Option.bind_some, bZ (dR (by omega) (by omega))]
     simp only [wV]
     rw [Option.bind_some, GD, Option.bind_some, GD, Option.bind_some]
     have hb : gM l x = ((decide (0 ≤ x.Section) && decide (x.Section ≤ (l.Sections.length : Int) - 1)) && (decide (0 ≤ x.Dir) && decide (x.Dir ≤ 1))) := by
      rw [Bool.eq_iff_iff]
      unfold gM
      simp only [Bool.and_eq_true, Bool.or_eq_true, decide_eq_true_eq]
      omega
     cases hy : (decide (0 ≤ x.Section) && decide (x.Section ≤ (l.Sections.length : Int) - 1)) with
     | false =>
      rw [hy] at hb
      simp [hb]
     | true =>
      rw [hy] at hb
      simp only [Bool.true_and] at hb
      simp only [Bool.not_true, Bool.not_false, cond_true, Bool.false_or]
      rw [← hb]
      by_cases hs : gM l x = true
      ·have ht : r.Steps.take (i + 1) = r.Steps.take i ++ [x] := by
        rw [List.take_succ_eq_append_getElem hi]
        rw [kC, List.getElem?_eq_getElem hi] at hx
        cases hx; rfl
       rw [if_neg (by simp [hs]), bZ (dR (by omega) (by omega)), hk () (by rw [ht, List.all_append, hI]; simp [hs])]
       simp [hs]
      ·rw [if_pos (by simpa using hs)]
       simp [hs]
    ·intro c _ hI
     simp only [Fz]
     rw [List.take_length] at hI
     rw [if_neg (by simp), cr2 v r (by omega) (by omega) hI]
     by_cases hd : mP [] r.Steps = true <;> simp [hd]
 ·have e : gU l r = ([], 1) := by unfold gU; rw [if_pos hc]
  rw [e, if_pos (by simp [hc])]
end Go.Proofs.YtcalibhfgdncaaaGreatDoor
namespace Go.Proofs.YtcalibhfgdncaaaGreatDoor
open Go.Dc
set_option maxRecDepth 100000
theorem afx : ∀ k : Fin 401, Ma (IntKind.u64.wrap ((1 : Nat) : Int)) (IntKind.u64.wrap ((k.val : Nat) : Int)) = some (0, ((k.val : Nat) : Int)) := by decide +kernel
theorem wrap_small : ∀ k : Fin 401, IntKind.i64.wrap ((k.val : Nat) : Int) = ((k.val : Nat) : Int) := by decide +kernel
theorem afw {p : Int} {x : Cell} (h0 : 0 ≤ p) (h : p ≤ 1000000) : mk (α := Cell) x p = some (List.replicate p.toNat x) := by
 unfold mk
 rw [if_pos]
 refine ⟨h0, ?_⟩
 show p * 16 ≤ _
 omega
theorem agJ (c : Cell) (k : Nat) (h1 : 1 ≤ k) (h2 : k ≤ 400) : La [c] (k : Int) = some (List.replicate k c) := by
 unfold La
 rw [if_neg (by simp)]
 unfold NS
 have hm := afx ⟨k, by omega⟩
 simp only at hm
 rw [show (([c] : List Cell).length : Int) = ((1 : Nat) : Int) from rfl, hm, Option.bind_some, if_neg (by simp; omega)]
 unfold NT
 have hw := wrap_small ⟨k, by omega⟩
 simp only at hw
 rw [show ((0 : Int), (k : Int)).2 = (k : Int) from rfl, hw, afw (by omega) (by omega), Option.bind_some]
 simp only [Int.toNat_natCast, List.length_replicate]
 have hc0 : wF (List.replicate k (Cell.mk 0 0)) 0 k [c] = some (List.replicate 1 c ++ List.replicate (k - 1) (Cell.mk 0 0)) := by
  unfold wF wE
  rw [if_pos (by simp)]
  obtain ⟨j, rfl⟩ : ∃ j, k = j + 1 := ⟨k - 1, by omega⟩
  simp [List.replicate_succ]
 rw [hc0, Option.bind_some]
 have hmin : Nat.min ([c] : List Cell).length k = 1 := by show Nat.min 1 k = 1; exact Nat.min_eq_left h1
 rw [hmin]
 have key : WP (iter KZ FUEL (List.replicate 1 c ++ List.replicate (k - 1) (Cell.mk 0 0), ((1 : Nat) : Int))) (fun y => y = List.replicate k c) := by
  refine ahY (fun (q : List Cell × Int) => ∃ n : Nat, q.2 = n ∧ 1 ≤ n ∧ n ≤ k ∧ q.1 = List.replicate n c ++ List.replicate (k - n) (Cell.mk 0 0)) (fun q => k - q.2.toNat) _ ?_ FUEL _ ⟨1, rfl, by omega, h1, rfl⟩ (je (by simp only; omega))
  rintro ct ⟨q, n'⟩ ⟨n, hn, n1, nk, hq⟩ hct
  simp only at hn hq hct
  subst hn hq
  have hlen : (List.replicate n c ++ List.replicate (k - n) (Cell.mk 0 0)).length = k := by simp; omega
  simp only [KZ]
  rw [hlen]
  refine ahX (fun h => ?_) (fun h => ?_)
  ·simp only [decide_eq_true_eq] at h
   have s1 : sub (List.replicate n c ++ List.replicate (k - n) (Cell.mk 0 0)) (n : Int) (k : Int) = some (List.replicate (k - n) (Cell.mk 0 0)) := by
    unfold sub
    rw [if_pos (by rw [hlen]; omega)]
    congr 1
    rw [Int.toNat_natCast, Int.toNat_natCast, List.take_of_length_le (by rw [hlen]; omega)]
    rw [List.drop_append_of_le_length (by simp)]
    simp
   have s2 : sub (List.replicate n c ++ List.replicate (k - n) (Cell.mk 0 0)) 0 (n : Int) = some (List.replicate n c) := by
    unfold sub
    rw [if_pos (by rw [hlen]; omega)]
    congr 1
    rw [Int.toNat_natCast, List.take_append_of_le_length (by simp)]
    simp
   rw [s1, Option.bind_some, s2, Option.bind_some]
   simp only [List.length_replicate, Int.toNat_natCast]
   have hM : ∃ m, Nat.min n (k - n) = m ∧ 1 ≤ m ∧ n + m ≤ k := ⟨Nat.min n (k - n), rfl, by
    have h1 : 1 ≤ k - n := by omega
    exact Nat.le_min.2 ⟨n1, h1⟩, by
    have := Nat.min_le_right n (k - n)
    have h1 : Nat.min n (k - n) ≤ k - n := this
    omega⟩
   obtain ⟨m, hm, m1, m2⟩ := hM
   have hcp : wF (List.replicate n c ++ List.replicate (k - n) (Cell.mk 0 0)) n (k - n) (List.replicate n c) = some (List.replicate (n + m) c ++ List.replicate (k - (n + m)) (Cell.mk 0 0)) := by
    unfold wF wE
    rw [if_pos (by rw [hlen]; omega), List.take_replicate, show min (k - n) n = m by rw [Nat.min_comm]; exact hm]
    congr 1
    rw [List.take_append_of_le_length (by simp), List.take_of_length_le (by simp), List.length_replicate, List.drop_append, List.length_replicate]
    rw [List.drop_of_length_le (by simp), List.nil_append, show n + m - n = m by omega, List.drop_replicate, List.replicate_append_replicate]
    congr 2
    omega
   rw [hcp, Option.bind_some, hm]
   refine ahW (by omega) (hct _ ⟨n + m, by simp, by omega, m2, rfl⟩ (by simp only; omega))
  ·simp only [decide_eq_false_iff_not] at h
   have : n = k := by omega
   subst this
   exact ahZ (by simp)
 obtain ⟨y, e, rfl⟩ := key
 exact e
def gV (l : Layout) (s : Step) : Section := l.Sections.getD s.Section.toNat default
def cellOf (l : Layout) (s : Step) : Cell := ⟨(gV l s).Limit, if s.Dir = 1 then -(gV l s).iE else (gV l s).iE⟩
def Bj (l : Layout) (ss : List Step) : List Cell := ss.flatMap fun s => List.replicate (gV l s).Length.toNat (cellOf l s)
def cellsE (l : Layout) (r : aV) (cs : List Cell) : List Cell × Int × Int :=
 if 4000 < cs.length then ([], 0, 7) else (cs, (gV l (r.Steps.getD 0 default)).Length, 0)
def rU (l : Layout) (r : aV) : List Cell × Int × Int :=
 if (gU l r).2 ≠ 0 then ([], 0, (gU l r).2) else cellsE l r (Bj l (r.Steps.take ((r.Steps.length : Int) - r.Overlap).toNat))
structure pF (l : Layout) (r : aV) : Prop where
 ck : jD (fD l) = 0
 v : Val l
 len : r.Steps.length ≤ 24
 ov : 0 ≤ r.Overlap ∧ r.Overlap ≤ 2
 two : 2 ≤ (r.Steps.length : Int) - r.Overlap
 st : ∀ s ∈ r.Steps, gM l s = true
 dup : mP [] r.Steps = false
 pts : MS l r.Steps = some (gU l r).1
theorem wW {l : Layout} {r : aV} (h : (gU l r).2 = 0) : pF l r := by
 by_cases hc : jD (fD l) = 0
 ·by_cases nJ : 24 < r.Steps.length ∨ 2 < r.Overlap
  ·have e : gU l r = ([], 7) := by unfold gU; rw [if_neg (by simp [hc]), if_pos nJ]
   rw [e] at h; cases h
  ·by_cases h2 : r.Overlap < 0 ∨ (r.Steps.length : Int) - r.Overlap < 2
   ·have e : gU l r = ([], 4) := by unfold gU; rw [if_neg (by simp [hc]), if_neg nJ, if_pos h2]
    rw [e] at h; cases h
   ·by_cases ha : r.Steps.all (gM l) = false
    ·have e : gU l r = ([], 4) := by unfold gU; rw [if_neg (by simp [hc]), if_neg nJ, if_neg h2, if_pos ha]
     rw [e] at h; cases h
    ·by_cases hd : mP [] r.Steps = true
     ·have e : gU l r = ([], 5) := by unfold gU; rw [if_neg (by simp [hc]), if_neg nJ, if_neg h2, if_neg ha, if_pos hd]
      rw [e] at h; cases h
     ·have e : gU l r = qF l r := by unfold gU; rw [if_neg (by simp [hc]), if_neg nJ, if_neg h2, if_neg ha, if_neg hd]
      refine ⟨hc, Og hc, by omega, by omega, by omega, fun s hm => List.all_eq_true.1 (by simpa using ha) s hm, by simpa using hd, ?_⟩
      rw [e] at h ⊢
      unfold qF at h ⊢
      cases hp : MS l r.Steps with
      | none => rw [hp] at h; cases h
      | some q => rfl
 ·have e : gU l r = ([], 1) := by unfold gU; rw [if_pos hc]
  rw [e] at h; cases h
theorem CO {l : Layout} (v : Val l) {s : Step} (h : gM l s = true) : idx l.Sections s.Section = some (gV l s) ∧ 1 ≤ (gV l s).Length ∧ (gV l s).Length ≤ 400 ∧ -40 ≤ (gV l s).iE ∧ (gV l s).iE ≤ 40 := by
 unfold gM at h
 simp only [Bool.and_eq_true, decide_eq_true_eq] at h
 have hlt : s.Section.toNat < l.Sections.length := by omega
 have hm : gV l s ∈ l.Sections := by unfold gV; simp [hlt]
 have := v.secs _ hm
 exact ⟨qD h.1.1 h.1.2, this.1, this.2.1, this.2.2.2.2.1, this.2.2.2.2.2⟩
theorem agp (l : Layout) (r : aV) : KE l r = some (rU l r) := by
 unfold KE rU
 rw [YT, Option.bind_some]
 by_cases h0 : (gU l r).2 = 0
 ·have o := wW h0
  have v := o.v
  rw [if_neg (by simp [h0]), if_neg (by simp [h0])]
  have := o.len; have := o.ov; have := o.two
  have hs : sub r.Steps 0 ((r.Steps.length : Int) - r.Overlap) = some (r.Steps.take ((r.Steps.length : Int) - r.Overlap).toNat) := by
   unfold sub
   rw [if_pos (by omega)]
   simp
  rw [bZ (dR (by omega) (by omega)), hs, Option.bind_some]
  generalize hT : r.Steps.take ((r.Steps.length : Int) - r.Overlap).toNat = T
  have hTl : T.length ≤ 24 := by rw [← hT, List.length_take]; omega
  have P8 : ∀ s ∈ T, gM l s = true := fun s hm => o.st s (List.mem_of_mem_take (by rw [← hT] at hm; exact hm))
  have := jP (B := Gc T l r) (fun (s : List Cell) i => (s, i)) T (fun s i => s.length ≤ 400 * i) (fun s q => some (cellsE l r (s ++ Bj l q))) ?_ ?_ FUEL [] 0 (by simp) (by omega) (je (by omega))
  ·simpa using this
  ·intro c s i x q hI hdr hi hx hk
   have hm : x ∈ T := List.mem_of_mem_drop (i := i) (by rw [hdr]; exact List.mem_cons_self)
   obtain ⟨hsx, s1, s2, s3, s4⟩ := CO v (P8 x hm)
   simp only [Gc]
   rw [if_pos (by simp; omega), hx, Option.bind_some, hsx, Option.bind_some]
   have hrep : ∀ g : Int, Av (gV l x) s c i g = c (s ++ List.replicate (gV l x).Length.toNat (Cell.mk (gV l x).Limit g), i + 1) := by
    intro g
    unfold Av
    have := agJ (Cell.mk (gV l x).Limit g) (gV l x).Length.toNat (by omega) (by omega)
    rw [Int.toNat_of_nonneg (by omega)] at this
    rw [this, Option.bind_some, bZ (by simp; omega)]
   have hgo : (if decide (x.Dir = 1) = true then bM (bP (-(gV l x).iE)) (Av (gV l x) s c i (-(gV l x).iE)) else Av (gV l x) s c i (gV l x).iE) = c (s ++ List.replicate (gV l x).Length.toNat (cellOf l x), i + 1) := by
    unfold cellOf
    by_cases hd : x.Dir = 1
    ·rw [if_pos (by simpa using hd), if_pos hd, bZ (dR (by omega) (by omega)), hrep]
    ·rw [if_neg (by simpa using hd), if_neg hd, hrep]
   rw [hgo, hk _ (by simp; omega)]
   simp [Bj, List.flatMap_cons]
  ·intro c s hI
   simp only [Gc]
   rw [if_neg (by simp)]
   unfold SI cellsE
   simp only [Bj, List.flatMap_nil, List.append_nil]
   by_cases hb : 4000 < s.length
   ·rw [if_pos (by simp; omega), if_pos hb]
   ·rw [if_neg (by simp; omega), if_neg hb]
    have h00 : 0 < r.Steps.length := by omega
    have hi0 : idx r.Steps 0 = some (r.Steps.getD 0 default) := qD (by omega) (by omega)
    have hm0 : r.Steps.getD 0 default ∈ r.Steps := by simp [h00]
    rw [hi0, Option.bind_some, (CO v (o.st _ hm0)).1, Option.bind_some]
 ·rw [if_pos (by simp [h0]), if_pos h0]
theorem agH (l : Layout) (r : aV) : Ka l r = some (rU l r) := by
 unfold Ka rU
 rw [O4, Option.bind_some]
 by_cases h0 : (gU l r).2 = 0
 ·have o := wW h0
  have v := o.v
  rw [if_neg (by simp [h0]), if_neg (by simp [h0])]
  have := o.len; have := o.ov; have := o.two
  generalize hT : r.Steps.take ((r.Steps.length : Int) - r.Overlap).toNat = T
  have hTl : (T.length : Int) = (r.Steps.length : Int) - r.Overlap := by rw [← hT, List.length_take]; omega
  have P8 : ∀ s ∈ T, gM l s = true := fun s hm => o.st s (List.mem_of_mem_take (by rw [← hT] at hm; exact hm))
  have := jP (B := Fx r l) (fun (s : List Cell) i => (s, i)) T (fun s i => s.length ≤ 400 * i) (fun s q => some (cellsE l r (s ++ Bj l q))) ?_ ?_ FUEL [] 0 (by simp) (by omega) (je (by omega))
  ·simpa using this
  ·intro c s i x q hI hdr hi hx hk
   have hm : x ∈ T := List.mem_of_mem_drop (i := i) (by rw [hdr]; exact List.mem_cons_self)
   obtain ⟨hsx, s1, s2, s3, s4⟩ := CO v (P8 x hm)
   have hx' : idx r.Steps (i : Int) = some x := by
    rw [kC] at hx ⊢
    rw [← hT, List.getElem?_take, if_pos (by omega)] at hx
    exact hx
   simp only [Fx]
   rw [bZ (dR (by omega) (by omega)), if_pos (by simp; omega), hx', Option.bind_some, hsx, Option.bind_some, Option.bind_some]
   have hrep : ∀ g : Int, Ak (gV l x) i c s g = c (s ++ List.replicate (gV l x).Length.toNat (Cell.mk (gV l x).Limit g), i + 1) := by
    intro g
    unfold Ak
    have := jP (B := Fy (gV l x) g i c) (fun (z : List Cell) k => (z, k)) (List.replicate (gV l x).Length.toNat (Cell.mk (gV l x).Limit g)) (fun z k => z.length ≤ 400 * i + k) (fun z q => c (z ++ q, i + 1)) ?_ ?_ FUEL s 0 (by omega) (by omega) (je (by simp; omega))
    ·simpa using this
    ·intro c2 z k y q hz hdr hk hy hc
     rw [List.length_replicate] at hk
     have hyy : y = Cell.mk (gV l x).Limit g := by
      have : y ∈ List.replicate (gV l x).Length.toNat (Cell.mk (gV l x).Limit g) := List.mem_of_mem_drop (i := k) (by rw [hdr]; exact List.mem_cons_self)
      exact List.eq_of_mem_replicate this
     simp only [Fy]
     rw [if_pos (by simp; omega), bZ (by simp; omega), bZ (dR (by omega) (by omega)), hc _ (by simp; omega), hyy]
     simp
    ·intro c2 z _
     simp only [Fy, List.length_replicate]
     rw [if_neg (by simp; omega)]
     simp only [Sj]
     rw [bZ (dR (by omega) (by omega))]
     simp
   have hgo : (if decide (x.Dir = 1) = true then bM (bP (-(gV l x).iE)) (Ak (gV l x) i c s (-(gV l x).iE)) else Ak (gV l x) i c s (gV l x).iE) = c (s ++ List.replicate (gV l x).Length.toNat (cellOf l x), i + 1) := by
    unfold cellOf
    by_cases hd : x.Dir = 1
    ·rw [if_pos (by simpa using hd), if_pos hd, bZ (dR (by omega) (by omega)), hrep]
    ·rw [if_neg (by simpa using hd), if_neg hd, hrep]
   rw [hgo, hk _ (by simp; omega)]
   simp [Bj, List.flatMap_cons]
  ·intro c s hI
   simp only [Fx]
   rw [bZ (dR (by omega) (by omega)), if_neg (by simp; omega)]
   unfold Si cellsE
   simp only [Bj, List.flatMap_nil, List.append_nil]
   by_cases hb : 4000 < s.length
   ·rw [if_pos (by simp; omega), if_pos hb]
   ·rw [if_neg (by simp; omega), if_neg hb]
    have h00 : 0 < r.Steps.length := by omega
    have hi0 : idx r.Steps 0 = some (r.Steps.getD 0 default) := qD (by omega) (by omega)
    have hm0 : r.Steps.getD 0 default ∈ r.Steps := by simp [h00]
    rw [hi0, Option.bind_some, (CO v (o.st _ hm0)).1, Option.bind_some]
 ·rw [if_pos (by simp [h0]), if_pos h0]
end Go.Proofs.YtcalibhfgdncaaaGreatDoor
namespace Go.Proofs.YtcalibhfgdncaaaGreatDoor
open Go.Dc
theorem WW (c : Int) : Lp c = some (mI c) := rfl
theorem aeU (c : Int) : Ol c = some (rX c) := rfl
theorem Xp (s : Str) : GK s = some (jH s.ba) := by
 unfold GK jH
 rw [Str.xI]
 by_cases h : 1 ≤ s.l.length ∧ s.l.length ≤ 12
 ·have hg : (!(decide ((s.l.length : Int) < 1) || decide (12 < (s.l.length : Int)))) = true := by simp; omega
  rw [o9 hg]
  have h0 := Md (s := s) (i := 0) (by omega)
  rw [show ((0 : Nat) : Int) = 0 from rfl] at h0
  rw [h0]
  simp only [Option.bind_some]
  rw [o9 hg, WW]
  simp only [Option.bind_some]
  by_cases hL : mI (Go.eT.bt s.ba 0) = true
  ·rw [if_neg (by simp [hL]; omega), bZ (by simp; omega)]
   have := jP (B := GJ s) (fun (_ : Unit) i => i) (List.range s.l.length) (fun _ _ => True) (fun _ r => some (r.all fun i => mF (Go.eT.bt s.ba i))) ?_ ?_ FUEL () 0 trivial (by omega) (je (by simp; omega))
   ·rw [this, List.drop_zero]
    simp [hL, h.1, h.2]
   ·intro c _ i x r _ hdr hi hx hk
    simp only [List.length_range] at hi
    have hxi : x = i := by
     have := List.getElem?_drop (xs := List.range s.l.length) (i := i) (j := 0)
     rw [hdr] at this
     simp [hi] at this
     omega
    subst hxi
    have hb := Md (s := s) (i := x) hi
    simp only [GJ]
    rw [if_pos (by simp; omega), hb]
    simp only [Option.bind_some]
    rw [WW]
    simp only [Option.bind_some]
    by_cases a1 : mI (Go.eT.bt s.ba x) = true
    ·rw [oC (by simp [a1])]
     simp only [Option.bind_some]
     rw [oC (by simp [a1])]
     simp only [Option.bind_some]
     rw [oC (by simp [a1])]
     simp only [Option.bind_some]
     rw [if_neg (by simp [a1]), hk () trivial]
     simp [mF, a1]
    ·have a1' : mI (Go.eT.bt s.ba x) = false := by simpa using a1
     rw [o9 (by simp [a1'])]
     simp only [Option.bind_some]
     rw [o9 (by simp [a1']), aeU]
     simp only [Option.bind_some]
     by_cases a2 : rX (Go.eT.bt s.ba x) = true
     ·rw [oC (by simp [a2])]
      simp only [Option.bind_some]
      rw [if_neg (by simp [a2]), hk () trivial]
      simp [mF, a2]
     ·have Ba : rX (Go.eT.bt s.ba x) = false := by simpa using a2
      rw [o9 (by simp [a1', Ba])]
      simp only [Option.bind_some]
      by_cases a3 : Go.eT.bt s.ba x = 95
      ·rw [if_neg (by simp [a3]), hk () trivial]
       simp [mF, a3]
      ·rw [if_pos (by simp [a1', Ba, a3])]
       simp [mF, a1', Ba, a3]
   ·intro c _ _
    simp only [GJ]
    rw [if_neg (by simp)]
    rfl
  ·have hL' : mI (Go.eT.bt s.ba 0) = false := by simpa using hL
   rw [if_pos (by simp [hL'])]
   simp [hL']
 ·have hg : (!(decide ((s.l.length : Int) < 1) || decide (12 < (s.l.length : Int)))) = false := by simp; omega
  rw [oC hg]
  simp only [Option.bind_some]
  rw [oC hg]
  simp only [Option.bind_some]
  rw [if_pos (by simp [Int.not_lt.mp, h] <;> omega)]
  have : (decide (1 ≤ s.l.length) && decide (s.l.length ≤ 12)) = false := by simp; omega
  simp [this]
end Go.Proofs.YtcalibhfgdncaaaGreatDoor
namespace Go.Proofs.YtcalibhfgdncaaaGreatDoor
open Go.Dc
theorem Xn {s : ByteArray} {seen : List ByteArray} (h : jR s seen = 0) : jH s = true ∧ s ∉ seen := by
 unfold jR at h
 split at h
 ·cases h
 ·rename_i h1
  split at h
  ·cases h
  ·rename_i h2; exact ⟨by simpa using h1, h2⟩
theorem Q7 : ∀ (l seen : List ByteArray), iC seen l = 0 → (∀ s ∈ l, jH s = true ∧ s ∉ seen) ∧ l.Nodup
 | [], _, _ => ⟨by simp, .nil⟩
 | q :: l, seen, h => by
  unfold iC at h
  by_cases h1 : jR q seen ≠ 0
  ·rw [if_pos h1] at h; exact absurd h h1
  ·rw [if_neg h1] at h
   obtain ⟨a, b⟩ := Q7 l _ h
   have hq := Xn (Classical.not_not.1 h1)
   refine ⟨fun s hs => ?_, List.nodup_cons.2 ⟨fun hm => ?_, b⟩⟩
   ·rcases List.mem_cons.1 hs with e | e
    ·subst e; exact hq
    ·exact ⟨(a s e).1, fun hm => (a s e).2 (List.mem_append.2 (.inl hm))⟩
   ·exact (a q hm).2 (List.mem_append.2 (.inr (List.mem_singleton.2 rfl)))
theorem ZG (n : Nat) : ∀ (l : List jM) (seen : List ByteArray), kg n seen l = 0 → (∀ s ∈ l, jH s.name = true ∧ s.name ∉ seen) ∧ (l.map (·.name)).Nodup
 | [], _, _ => ⟨by simp, .nil⟩
 | q :: l, seen, h => by
  unfold kg at h
  by_cases h1 : jR q.name seen ≠ 0
  ·rw [if_pos h1] at h; exact absurd h h1
  ·rw [if_neg h1] at h
   by_cases h4 : tV n q = false
   ·rw [if_pos h4] at h; cases h
   ·rw [if_neg h4] at h
    obtain ⟨a, b⟩ := ZG n l _ h
    have hq := Xn (Classical.not_not.1 h1)
    refine ⟨fun s hs => ?_, List.nodup_cons.2 ⟨fun hm => ?_, b⟩⟩
    ·rcases List.mem_cons.1 hs with e | e
     ·subst e; exact hq
     ·exact ⟨(a s e).1, fun hm => (a s e).2 (List.mem_append.2 (.inl hm))⟩
    ·obtain ⟨s, hs, e⟩ := List.mem_map.1 hm
     exact (a s hs).2 (List.mem_append.2 (.inr (List.mem_singleton.2 e)))
theorem aaM (c : UInt8) (h : mF (c.toNat : Int) = true) : wQ c = true := by
 unfold mF mI rX at h
 unfold wQ zW
 simp only [Bool.or_eq_true, Bool.and_eq_true, decide_eq_true_eq] at h ⊢
 omega
theorem JA {s : Str} (h : jH s.ba = true) : nS s = true ∧ s.l.length ≤ 12 := by
 unfold jH at h
 simp only [Bool.and_eq_true, decide_eq_true_eq, List.all_eq_true, List.mem_range, Str.xI] at h
 obtain ⟨⟨⟨h1, h2⟩, _⟩, h4⟩ := h
 refine ⟨?_, h2⟩
 unfold nS
 simp only [Bool.and_eq_true, decide_eq_true_eq, List.all_eq_true]
 refine ⟨fun e => by rw [e] at h1; simp at h1, fun c hc => ?_⟩
 obtain ⟨i, hi, rfl⟩ := List.getElem_of_mem hc
 have := h4 i hi
 unfold Go.eT.bt at this
 have e : s.ba.data.toList.getD i 0 = s.l[i] := by simp [Str.ba, List.getD, hi]
 rw [e] at this
 exact aaM _ this
structure zk (l : Layout) : Prop extends Val l where
 Z7 : ∀ s ∈ l.aX, nS s = true ∧ s.l.length ≤ 12
 ptw : ∀ s ∈ l.bF, nS s = true ∧ s.l.length ≤ 12
 ZA : ∀ s ∈ l.Sections, nS s.Name = true ∧ s.Name.l.length ≤ 12
 std : l.aX.Nodup
 ptd : l.bF.Nodup
 scd : (l.Sections.map (·.Name)).Nodup
 Zz : ∀ s ∈ l.Sections, -1 ≤ s.mE ∧ s.mE < l.aX.length
 pos : ∀ k ∈ l.Links, k.Pos = 0 ∨ k.Pos = 1 ∧ k.Point ≠ -1
theorem Q8 {α β : Type} (f : α → β) {l : List α} (h : (l.map f).Nodup) : l.Nodup := by
 induction l with
 | nil => exact .nil
 | cons x l ih =>
  rw [List.map_cons, List.nodup_cons] at h
  exact List.nodup_cons.2 ⟨fun hm => h.1 (List.mem_map.2 ⟨x, hm, rfl⟩), ih h.2⟩
theorem aae {l : Layout} (h : jD (fD l) = 0) : zk l := by
 have hv := Og h
 have hl := h
 unfold jD at h
 split at h
 ·cases h
 split at h
 ·cases h
 split at h
 ·rename_i h1; exact absurd h h1
 rename_i hst
 split at h
 ·rename_i h1; exact absurd h h1
 rename_i hpt
 split at h
 ·rename_i h1; exact absurd h h1
 rename_i hs
 simp only [Decidable.not_not] at hs hst hpt
 have mW := Q7 _ _ hst
 have Xu := Q7 _ _ hpt
 have Xv := ZG _ _ _ hs
 refine { toVal := hv, Z7 := fun s hm => ?_, ptw := fun s hm => ?_, ZA := fun s hm => ?_, std := Q8 Str.ba mW.2, ptd := Q8 Str.ba Xu.2, scd := ?_, Zz := fun s hm => ?_, pos := fun k hm => ?_ }
 ·exact JA (mW.1 s.ba (List.mem_map.2 ⟨s, hm, rfl⟩)).1
 ·exact JA (Xu.1 s.ba (List.mem_map.2 ⟨s, hm, rfl⟩)).1
 ·exact JA (Xv.1 (nQ s) (List.mem_map.2 ⟨s, hm, rfl⟩)).1
 ·have := Xv.2
  refine Q8 Str.ba ?_
  have e : (fD l).sections.map (·.name) = (l.Sections.map (·.Name)).map Str.ba := by simp [fD, nQ]
  rwa [e] at this
 ·have := SY _ _ _ hs (nQ s) (List.mem_map.2 ⟨s, hm, rfl⟩)
  unfold tV nQ at this
  simp only [fD, List.length_map, Bool.and_eq_true, decide_eq_true_eq] at this
  exact ⟨this.1.2, this.2⟩
 ·have := (QX _ _ _ h (gY k) (List.mem_map.2 ⟨k, hm, rfl⟩)).1
  unfold lq gY at this
  simp only [Bool.and_eq_true, Bool.or_eq_true, decide_eq_true_eq] at this
  exact this.2
end Go.Proofs.YtcalibhfgdncaaaGreatDoor
namespace Go.Proofs.YtcalibhfgdncaaaGreatDoor
open Go.Dc
theorem O8 : ∀ (k m : Nat) (s : List UInt8), m < k → 0 < m → xO m s = Lib.decDigits m ++ s
 | 0, _, _, h, _ => by omega
 | k + 1, m, s, h, h0 => by
  rw [Pb h0]
  by_cases h1 : m < 10
  ·have e : m / 10 = 0 := by omega
   rw [e, Mf, Lib.decDigits_one h1, Nat.mod_eq_of_lt h1]
   rfl
  ·rw [O8 k (m / 10) _ (by omega) (by omega)]
   conv => rhs; rw [Lib.decDigits, dif_neg h1]
   simp
theorem Mg (v : Int) (h1 : -9223372036854775808 ≤ v) (h2 : v ≤ 9223372036854775807) : yC v = some ⟨Lib.itoa v⟩ := by
 by_cases hs : 0 ≤ v ∧ v < 10
 ·have key : ∀ k : Fin 10, yC (k.val : Int) = some ⟨[UInt8.ofNat (48 + k.val)]⟩ := by decide +kernel
  have := key ⟨v.toNat, by omega⟩
  simp only at this
  rw [Int.toNat_of_nonneg hs.1] at this
  rw [this]
  have e : v = ((v.toNat : Nat) : Int) := (Int.toNat_of_nonneg hs.1).symm
  conv => rhs; rw [e]
  rw [Lib.itoa_nonneg, Lib.decDigits_one (by omega)]
 ·have h0 : 0 < v.natAbs := by omega
  have hp : v.natAbs * 10 ^ ([] : List UInt8).length ≤ 9223372036854775808 := by simp; omega
  have hloop := aa5 v (decide (v < 0)) FUEL v.natAbs [] (by have : FUEL = 18446744073709551616 := rfl; omega) hp (by simp)
  have ev : (if decide (v < 0) = true then -(v.natAbs : Int) else (v.natAbs : Int)) = v := by
   by_cases hv : v < 0
   ·rw [if_pos (by simpa using hv)]; omega
   ·rw [if_neg (by simpa using hv)]; omega
  have hlen := O9 20 v.natAbs [] (by have : (10 : Nat) ^ 20 = 100000000000000000000 := (by decide); omega)
  simp only [List.length_nil, Nat.zero_add] at hlen
  rw [ev] at hloop
  have hd := O8 (v.natAbs + 1) v.natAbs [] (by omega) h0
  rw [List.append_nil] at hd
  rw [hd] at hloop hlen
  unfold yC
  rw [if_neg (by simp; omega), hloop]
  unfold M7 J2
  by_cases hv : v < 0
  ·have c1 : dB ⟨[45]⟩ ⟨Lib.decDigits v.natAbs⟩ = some ⟨45 :: Lib.decDigits v.natAbs⟩ := by
    unfold dB
    rw [if_pos (by simp only [List.length_singleton]; omega)]
    rfl
   rw [if_pos (by simpa using hv), c1, Option.bind_some]
   have : Lib.itoa v = 45 :: Lib.decDigits v.natAbs := by unfold Lib.itoa; rw [if_pos hv]
   rw [this]
  ·rw [if_neg (by simpa using hv)]
   have : Lib.itoa v = Lib.decDigits v.natAbs := by
    unfold Lib.itoa
    rw [if_neg hv]
    congr 1
    omega
   rw [this]
theorem Pg : ∀ (k m : Nat), m < k → (Lib.decDigits m).all wQ = true ∧ Lib.decDigits m ≠ []
 | 0, _, h => by omega
 | k + 1, m, h => by
  have hd : ∀ d : Nat, d < 10 → wQ (UInt8.ofNat (48 + d)) = true := fun d hd => by
   have key : ∀ q : Fin 10, wQ (UInt8.ofNat (48 + q.val)) = true := by decide
   exact key ⟨d, hd⟩
  by_cases h1 : m < 10
  ·rw [Lib.decDigits_one h1]
   exact ⟨by simp only [List.all_cons, List.all_nil, Bool.and_true]; exact hd m h1, by simp⟩
  ·rw [Lib.decDigits, dif_neg h1]
   obtain ⟨a, b⟩ := Pg k (m / 10) (by omega)
   refine ⟨?_, by simp⟩
   rw [List.all_append, a]
   simp only [List.all_cons, List.all_nil, Bool.and_true, Bool.true_and]
   exact hd (m % 10) (by omega)
theorem QS (v : Int) : nS ⟨Lib.itoa v⟩ = true := by
 unfold nS Lib.itoa
 split
 ·obtain ⟨a, b⟩ := Pg (v.natAbs + 1) v.natAbs (by omega)
  simp only [Bool.and_eq_true, decide_eq_true_eq, List.all_cons]
  exact ⟨by simp, by decide, a⟩
 ·obtain ⟨a, b⟩ := Pg (v.toNat + 1) v.toNat (by omega)
  simp only [Bool.and_eq_true, decide_eq_true_eq]
  exact ⟨b, a⟩
theorem BN (v : Int) (h1 : -9223372036854775808 ≤ v) (h2 : v ≤ 9223372036854775807) : (Lib.itoa v).length ≤ 21 := by
 have hd : ∀ m : Nat, 0 < m → m ≤ 9223372036854775808 → (Lib.decDigits m).length ≤ 20 := fun m hm hb => by
  have := O9 20 m [] (by have : (10 : Nat) ^ 20 = 100000000000000000000 := (by decide); omega)
  rw [O8 (m + 1) m [] (by omega) hm] at this
  simpa using this
 unfold Lib.itoa
 split
 ·have := hd v.natAbs (by omega) (by omega)
  simp only [List.length_cons]; omega
 ·by_cases h0 : v = 0
  ·subst h0
   simp [Lib.decDigits_one]
  ·have := hd v.toNat (by omega) (by omega)
   omega
end Go.Proofs.YtcalibhfgdncaaaGreatDoor

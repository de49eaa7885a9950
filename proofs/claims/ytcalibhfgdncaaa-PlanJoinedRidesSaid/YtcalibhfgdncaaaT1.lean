/- Routes: the points of a route and the errors of Check. -/
import Derived.Test.YtcalibhfgdncaaaQ1
import Derived.Test.YtcalibhfgdncaaaRd
set_option linter.all false
namespace Go.Proofs.Ytcalibhfgdncaaa
open Go.Dc
def qp (l : Layout) (s : Step) : Bool := (decide (0 ≤ s.Section) && decide (s.Section < (l.Sections.length : Int))) && (decide (s.Dir = 0) || decide (s.Dir = 1))
def tF (s : Step) : ku := if s.Dir = 0 then ⟨s.Section, 1⟩ else ⟨s.Section, 0⟩
def AU (s : Step) : Step := if s.Dir = 0 then ⟨s.Section, 1⟩ else ⟨s.Section, 0⟩
def O5 (f t : ku) (k : Link) : Bool := (decide (ku.mk k.A k.jR = f) && decide (ku.mk k.B k.jS = t)) || (decide (ku.mk k.A k.jR = t) && decide (ku.mk k.B k.jS = f))
def Mj (f t : ku) : List Link → Int × Bool
 | [] => (0, false)
 | k :: r => if O5 f t k then (k.Point, true) else Mj f t r
def tr (l : Layout) (s t : Step) : Int × Bool := Mj (tF s) (tF (AU t)) l.Links
theorem UO (s : Step) : FB s = some (tF s) := by
 unfold FB tF
 by_cases h : s.Dir = 0 <;> simp [h]
theorem adE (s : Step) : Iz s = some (AU s) := by
 unfold Iz AU
 by_cases h : s.Dir = 0 <;> simp [h]
theorem aeu (l : Layout) (s t : Step) (hl : l.Links.length ≤ 1000) : Jh l s t = some (tr l s t) := by
 unfold Jh
 rw [UO, adE]
 simp only [Option.bind_some]
 rw [UO]
 simp only [Option.bind_some]
 unfold LW tr
 have := vD (B := FI l (tF s).fZ (tF s).side (tF (AU t)).fZ (tF (AU t)).side) (fun (_ : Unit) i => i) l.Links (fun _ _ => True) (fun _ r => some (Mj (tF s) (tF (AU t)) r)) ?_ ?_ FUEL () 0 trivial (by omega) (lJ (by omega))
 ·simpa using this
 ·intro c _ i k r _ _ hi hx hc
  simp only [FI]
  rw [if_pos (by simp; omega), hx]
  simp only [Option.bind_some, Mj]
  have hc' := hc () trivial
  show (if O5 (tF s) (tF (AU t)) k = true then some (k.Point, true) else c (i + 1)) = _
  by_cases hj : O5 (tF s) (tF (AU t)) k = true
  ·rw [if_pos hj, if_pos hj]
  ·rw [if_neg hj, if_neg hj, ← hc']
 ·intro c _ _
  simp only [FI]
  rw [if_neg (by simp)]
  rfl
def E9 (l : Layout) : Step → List Step → Option (List Int)
 | _, [] => some []
 | a, b :: r => if (tr l a b).2 then (E9 l b r).map ((tr l a b).1 :: ·) else none
def PV (l : Layout) : List Step → Option (List Int)
 | [] => some []
 | a :: r => E9 l a r
def uY : List Int → List Step → Bool
 | _, [] => false
 | seen, s :: r => decide (s.Section ∈ seen) || uY (s.Section :: seen) r
def zm (l : Layout) (r : aI) : List Int × Int :=
 match PV l r.Steps with
 | none => ([], 11)
 | some q => (q, 0)
def jZ (l : Layout) (r : aI) : List Int × Int :=
 if lI (nS l) ≠ 0 then ([], 1) else
 if 24 < r.Steps.length ∨ 2 < r.Overlap then ([], 7) else
 if r.Overlap < 0 ∨ (r.Steps.length : Int) - r.Overlap < 2 then ([], 4) else
 if r.Steps.all (qp l) = false then ([], 4) else
 if uY [] r.Steps = true then ([], 5) else zm l r
theorem J6 {l : Layout} (h : lI (nS l) = 0) : l.aQ.length ≤ 24 ∧ l.aR.length ≤ 48 ∧ l.Sections.length ≤ 96 ∧ l.Links.length ≤ 192 ∧ 0 < l.Sections.length := by
 unfold lI at h
 by_cases hf : rZ (nS l) = true
 ·rw [if_pos hf] at h; omega
 ·rw [if_neg hf] at h
  unfold rZ at hf
  simp only [nS, List.length_map, decide_eq_true_eq] at hf h
  by_cases h0 : l.Sections.length = 0
  ·rw [if_pos h0] at h; omega
  ·omega
theorem adq (l : Layout) (r : aI) (hl : l.Links.length ≤ 1000) (h2 : 2 ≤ r.Steps.length) (xI : r.Steps.length ≤ 24) :
  LV r l () = some (zm l r) := by
 unfold LV
 have hs : sub r.Steps 1 (r.Steps.length : Int) = some (r.Steps.drop 1) := by
  unfold sub; rw [if_pos (by omega)]
  simp
 rw [hs]
 simp only [Option.bind_some]
 obtain ⟨a, rest, hS⟩ : ∃ a rest, r.Steps = a :: rest := by
  cases h : r.Steps with
  | nil => rw [h] at h2; simp at h2
  | cons a rest => exact ⟨a, rest, rfl⟩
 have hd : r.Steps.drop 1 = rest := by rw [hS]; rfl
 rw [hd]
 have hrl : r.Steps.length = rest.length + 1 := by rw [hS]; rfl
 have := vD (B := FE rest r l) (fun (s : List Int × Step) i => (s.1, i)) rest (fun s i => r.Steps[i]? = some s.2 ∧ s.1.length ≤ i)
  (fun s q => some (match E9 l s.2 q with | none => ([], 11) | some z => (s.1 ++ z, 0))) ?_ ?_ FUEL ([], a) 0 ⟨by rw [hS]; rfl, by simp⟩ (by omega) (lJ (by omega))
 ·simp only [List.nil_append, List.drop_zero] at this
  rw [this]
  unfold zm
  rw [hS]
  rfl
 ·rintro c ⟨s, p⟩ i x q ⟨hp, hsl⟩ hdr hi hx hc
  simp only at hp hsl
  simp only [FE]
  rw [if_pos (by simp; omega), hx]
  simp only [Option.bind_some]
  rw [xU, hp]
  simp only [Option.bind_some]
  rw [aeu l p x hl]
  simp only [Option.bind_some, E9]
  by_cases ht : (tr l p x).2 = true
  ·rw [if_neg (by simp [ht]), jK (by simp; omega), if_pos ht]
   have hn : r.Steps[i + 1]? = some x := by
    rw [hS, List.getElem?_cons_succ]
    have := hx
    rw [xU] at this
    exact this
   have h := hc (s ++ [(tr l p x).1], x) ⟨hn, by simp; omega⟩
   simp only at h
   rw [h]
   cases E9 l x q with
   | none => rfl
   | some z => simp
  ·have hf : (tr l p x).2 = false := by simpa using ht
   rw [if_pos (by simp [hf]), if_neg ht]
 ·rintro c ⟨s, p⟩ _
  simp only [FE]
  rw [if_neg (by simp)]
  simp [QI, E9]
theorem adp (l : Layout) (r : aI) (hc : lI (nS l) = 0) (h2 : 2 ≤ r.Steps.length) (xI : r.Steps.length ≤ 24) (ha : r.Steps.all (qp l) = true) :
  LU l r () = some (if uY [] r.Steps = true then (([] : List Int), (5 : Int)) else zm l r) := by
 have hf := J6 hc
 unfold LU
 rw [acM (by omega) (by omega)]
 simp only [Option.bind_some]
 have := vD (B := FD r l) (fun (s : List Bool × List Int) i => (s.1, i)) r.Steps (fun s _ => s.1.length = l.Sections.length ∧ ∀ x : Int, 0 ≤ x → x < l.Sections.length → (gb s.1 x = true ↔ x ∈ s.2))
  (fun s q => some (if uY s.2 q = true then (([] : List Int), (5 : Int)) else zm l r)) ?_ ?_ FUEL (List.replicate (l.Sections.length : Int).toNat false, []) 0 ⟨by simp, fun x x0 x1 => by simp [YP _ _ x x0 (by omega)]⟩ (by omega) (lJ (by omega))
 ·simp only [List.drop_zero] at this
  exact this
 ·rintro c ⟨s, seen⟩ i x q ⟨hl, hs⟩ hdr hi hx hk
  simp only at hl hs
  simp only [FD]
  have hm : x ∈ r.Steps := List.mem_of_mem_drop (i := i) (by rw [hdr]; exact List.mem_cons_self)
  have hx1 : qp l x = true := List.all_eq_true.1 ha x hm
  unfold qp at hx1
  simp only [Bool.and_eq_true, Bool.or_eq_true, decide_eq_true_eq] at hx1
  rw [if_pos (by simp; omega), hx]
  simp only [Option.bind_some]
  have hb : idx s x.Section = some (gb s x.Section) := by
   have : x.Section.toNat < s.length := by omega
   simp [idx, hx1.1.1, gb, this]
  rw [hb]
  simp only [Option.bind_some]
  have hdd : uY seen (x :: q) = (decide (x.Section ∈ seen) || uY (x.Section :: seen) q) := rfl
  have hg := hs x.Section hx1.1.1 hx1.1.2
  by_cases hd : gb s x.Section = true
  ·rw [if_pos hd]
   rw [if_pos (show uY seen (x :: q) = true by rw [hdd]; simp [hg.1 hd])]
  ·rw [if_neg hd]
   have hn : ¬ x.Section ∈ seen := fun h => hd (hg.2 h)
   have h := hk (s.set x.Section.toNat true, x.Section :: seen) ⟨by simp [hl], fun z z0 z1 => by
    rw [YQ _ _ _ _ hx1.1.1 z0 (by omega)]
    by_cases e : z = x.Section
    ·simp [e]
    ·rw [if_neg e, hs z z0 z1]; simp [e]⟩
   simp only at h
   rw [h, hdd]
   simp [hn]
 ·rintro c ⟨s, seen⟩ _
  simp only [FD]
  rw [if_neg (by simp), adq l r (by omega) h2 xI]
  simp [uY]
theorem ado (l : Layout) (r : aI) : Jg l r = some (jZ l r) := by
 unfold Jg Iy
 simp only [Option.bind_some]
 by_cases hc : lI (nS l) = 0
 ·have hf := J6 hc
  have n1 : ¬ lI (nS l) ≠ 0 := by simp [hc]
  rw [if_neg (by simp [hc])]
  by_cases xI : 24 < r.Steps.length
  ·have e : jZ l r = ([], 7) := by unfold jZ; rw [if_neg n1, if_pos (.inl xI)]
   rw [e, if_pos (by simp; omega)]
   unfold FH
   rw [if_pos (by simp; omega)]
  ·rw [if_neg (by simp; omega)]
   unfold FH
   by_cases ho : 2 < r.Overlap
   ·have e : jZ l r = ([], 7) := by unfold jZ; rw [if_neg n1, if_pos (.inr ho)]
    rw [e, if_pos (by simp; omega)]
   ·rw [if_neg (by simp; omega)]
    unfold Jf
    by_cases h0 : r.Overlap < 0
    ·have e : jZ l r = ([], 4) := by unfold jZ; rw [if_neg n1, if_neg (by omega), if_pos (.inl h0)]
     rw [e, if_pos (by simp; omega), if_pos (by simp; omega)]
    ·rw [if_neg (by simp; omega), jK (mF (by omega) (by omega))]
     by_cases h2 : (r.Steps.length : Int) - r.Overlap < 2
     ·have e : jZ l r = ([], 4) := by unfold jZ; rw [if_neg n1, if_neg (by omega), if_pos (.inr h2)]
      rw [e, if_pos (by simp; omega)]
     ·have e : jZ l r = if r.Steps.all (qp l) = false then ([], 4) else if uY [] r.Steps = true then ([], 5) else zm l r := by unfold jZ; rw [if_neg n1, if_neg (by omega), if_neg (by omega)]
      rw [e, if_neg (by simp; omega)]
      have := vD (B := FC r l) (fun (_ : Unit) i => i) r.Steps (fun _ i => (r.Steps.take i).all (qp l) = true)
       (fun _ q => some (if q.all (qp l) = false then (([] : List Int), (4 : Int)) else if uY [] r.Steps = true then ([], 5) else zm l r)) ?_ ?_ FUEL () 0 (by simp) (by omega) (lJ (by omega))
      ·simp only [List.drop_zero] at this
       exact this
      ·intro c _ i x q hI hdr hi hx hk
       simp only [FC]
       rw [if_pos (by simp; omega), hx]
       simp only [Option.bind_some, LQ]
       by_cases hb : qp l x = true
       ·have hb' := hb
        unfold qp at hb'
        rw [if_neg (by simp [hb'])]
        have ht : r.Steps.take (i + 1) = r.Steps.take i ++ [x] := by
         rw [List.take_succ_eq_append_getElem hi]
         rw [xU, List.getElem?_eq_getElem hi] at hx
         cases hx; rfl
        have h := hk () (by rw [ht, List.all_append, hI]; simp [hb])
        rw [h]
        simp [hb]
       ·have hb' := hb
        unfold qp at hb'
        rw [if_pos (by simp at hb' ⊢; omega)]
        simp [hb]
      ·intro c _ hI
       simp only [FC]
       rw [List.take_length] at hI
       rw [if_neg (by simp), adp l r hc (by omega) (by omega) hI]
       simp
 ·have e : jZ l r = ([], 1) := by unfold jZ; rw [if_pos hc]
  rw [e, if_pos (by simp [hc])]
theorem VI (l : Layout) (r : aI) : Fz l r = some (jZ l r).2 := by
 unfold Fz
 rw [ado]
 rfl
end Go.Proofs.Ytcalibhfgdncaaa

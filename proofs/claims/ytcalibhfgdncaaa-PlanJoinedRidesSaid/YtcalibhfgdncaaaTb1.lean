/- Cells of a route: the program's and the reference's. -/
import Derived.Test.YtcalibhfgdncaaaTk
import Derived.Test.YtcalibhfgdncaaaT1
import Derived.Test.YtcalibhfgdncaaaRe
set_option linter.all false
namespace Go.Proofs.Ytcalibhfgdncaaa
open Go.Dc
set_option maxRecDepth 100000
theorem acO : ∀ k : Fin 401, J3 (IntKind.u64.wrap ((1 : Nat) : Int)) (IntKind.u64.wrap ((k.val : Nat) : Int)) = some (0, ((k.val : Nat) : Int)) := by decide +kernel
theorem wrap_small : ∀ k : Fin 401, IntKind.i64.wrap ((k.val : Nat) : Int) = ((k.val : Nat) : Int) := by decide +kernel
theorem acN {p : Int} {x : Cell} (h0 : 0 ≤ p) (h : p ≤ 1000000) : mk (α := Cell) x p = some (List.replicate p.toNat x) := by
 unfold mk
 rw [if_pos]
 refine ⟨h0, ?_⟩
 show p * 16 ≤ _
 omega
theorem adD (c : Cell) (k : Nat) (h1 : 1 ≤ k) (h2 : k ≤ 400) : Jw [c] (k : Int) = some (List.replicate k c) := by
 unfold Jw
 rw [if_neg (by simp)]
 unfold Me
 have hm := acO ⟨k, by omega⟩
 simp only at hm
 rw [show (([c] : List Cell).length : Int) = ((1 : Nat) : Int) from rfl, hm, Option.bind_some, if_neg (by simp; omega)]
 unfold Mf
 have hw := wrap_small ⟨k, by omega⟩
 simp only at hw
 rw [show ((0 : Int), (k : Int)).2 = (k : Int) from rfl, hw, acN (by omega) (by omega), Option.bind_some]
 simp only [Int.toNat_natCast, List.length_replicate]
 have hc0 : xE (List.replicate k (Cell.mk 0 0)) 0 k [c] = some (List.replicate 1 c ++ List.replicate (k - 1) (Cell.mk 0 0)) := by
  unfold xE xD
  rw [if_pos (by simp)]
  obtain ⟨j, rfl⟩ : ∃ j, k = j + 1 := ⟨k - 1, by omega⟩
  simp [List.replicate_succ]
 rw [hc0, Option.bind_some]
 have hmin : Nat.min ([c] : List Cell).length k = 1 := by show Nat.min 1 k = 1; exact Nat.min_eq_left h1
 rw [hmin]
 have key : WP (iter Jv FUEL (List.replicate 1 c ++ List.replicate (k - 1) (Cell.mk 0 0), ((1 : Nat) : Int))) (fun y => y = List.replicate k c) := by
  refine vN (fun (q : List Cell × Int) => ∃ n : Nat, q.2 = n ∧ 1 ≤ n ∧ n ≤ k ∧ q.1 = List.replicate n c ++ List.replicate (k - n) (Cell.mk 0 0)) (fun q => k - q.2.toNat) _ ?_ FUEL _ ⟨1, rfl, by omega, h1, rfl⟩ (lJ (by simp only; omega))
  rintro ct ⟨q, n'⟩ ⟨n, hn, n1, nk, hq⟩ hct
  simp only at hn hq hct
  subst hn hq
  have hlen : (List.replicate n c ++ List.replicate (k - n) (Cell.mk 0 0)).length = k := by simp; omega
  simp only [Jv]
  rw [hlen]
  refine ko (fun h => ?_) (fun h => ?_)
  ·simp only [decide_eq_true_eq] at h
   have s1 : sub (List.replicate n c ++ List.replicate (k - n) (Cell.mk 0 0)) (n : Int) (k : Int) = some (List.replicate (k - n) (Cell.mk 0 0)) := by
    unfold sub
    rw [if_pos (by rw [hlen]; omega)]
    congr 1
    rw [Int.toNat_natCast, Int.toNat_natCast, List.take_of_length_le (by rw [hlen]; omega)]
    rw [List.drop_append_of_le_length (by simp)]
    simp
   have s2 : sub (List.replicate n c ++ List.replicate (k - n) (Cell.mk 0 0)) 0 (n : Int) = some (List.replicate n c) := by
    unfold sub
    rw [if_pos (by rw [hlen]; omega)]
    congr 1
    rw [Int.toNat_natCast, List.take_append_of_le_length (by simp)]
    simp
   rw [s1, Option.bind_some, s2, Option.bind_some]
   simp only [List.length_replicate, Int.toNat_natCast]
   have hM : ∃ m, Nat.min n (k - n) = m ∧ 1 ≤ m ∧ n + m ≤ k := ⟨Nat.min n (k - n), rfl, by
    have h1 : 1 ≤ k - n := by omega
    exact Nat.le_min.2 ⟨n1, h1⟩, by
    have := Nat.min_le_right n (k - n)
    have h1 : Nat.min n (k - n) ≤ k - n := this
    omega⟩
   obtain ⟨m, hm, m1, m2⟩ := hM
   have hcp : xE (List.replicate n c ++ List.replicate (k - n) (Cell.mk 0 0)) n (k - n) (List.replicate n c) = some (List.replicate (n + m) c ++ List.replicate (k - (n + m)) (Cell.mk 0 0)) := by
    unfold xE xD
    rw [if_pos (by rw [hlen]; omega), List.take_replicate, show min (k - n) n = m by rw [Nat.min_comm]; exact hm]
    congr 1
    rw [List.take_append_of_le_length (by simp), List.take_of_length_le (by simp), List.length_replicate, List.drop_append, List.length_replicate]
    rw [List.drop_of_length_le (by simp), List.nil_append, show n + m - n = m by omega, List.drop_replicate, List.replicate_append_replicate]
    congr 2
    omega
   rw [hcp, Option.bind_some, hm]
   refine fE (by omega) (hct _ ⟨n + m, by simp, by omega, m2, rfl⟩ (by simp only; omega))
  ·simp only [decide_eq_false_iff_not] at h
   have : n = k := by omega
   subst this
   exact wX (by simp)
 obtain ⟨y, e, rfl⟩ := key
 exact e
def mJ (l : Layout) (s : Step) : Section := l.Sections.getD s.Section.toNat default
def cellOf (l : Layout) (s : Step) : Cell := ⟨(mJ l s).Limit, if s.Dir = 1 then -(mJ l s).jT else (mJ l s).jT⟩
def J5 (l : Layout) (ss : List Step) : List Cell := ss.flatMap fun s => List.replicate (mJ l s).Length.toNat (cellOf l s)
def cellsE (l : Layout) (r : aI) (cs : List Cell) : List Cell × Int × Int :=
 if 4000 < cs.length then ([], 0, 7) else (cs, (mJ l (r.Steps.getD 0 default)).Length, 0)
def xB (l : Layout) (r : aI) : List Cell × Int × Int :=
 if (jZ l r).2 ≠ 0 then ([], 0, (jZ l r).2) else cellsE l r (J5 l (r.Steps.take ((r.Steps.length : Int) - r.Overlap).toNat))
structure xq (l : Layout) (r : aI) : Prop where
 ck : lI (nS l) = 0
 v : Val l
 len : r.Steps.length ≤ 24
 ov : 0 ≤ r.Overlap ∧ r.Overlap ≤ 2
 two : 2 ≤ (r.Steps.length : Int) - r.Overlap
 st : ∀ s ∈ r.Steps, qp l s = true
 dup : uY [] r.Steps = false
 pts : PV l r.Steps = some (jZ l r).1
theorem QG {l : Layout} {r : aI} (h : (jZ l r).2 = 0) : xq l r := by
 by_cases hc : lI (nS l) = 0
 ·by_cases xI : 24 < r.Steps.length ∨ 2 < r.Overlap
  ·have e : jZ l r = ([], 7) := by unfold jZ; rw [if_neg (by simp [hc]), if_pos xI]
   rw [e] at h; cases h
  ·by_cases h2 : r.Overlap < 0 ∨ (r.Steps.length : Int) - r.Overlap < 2
   ·have e : jZ l r = ([], 4) := by unfold jZ; rw [if_neg (by simp [hc]), if_neg xI, if_pos h2]
    rw [e] at h; cases h
   ·by_cases ha : r.Steps.all (qp l) = false
    ·have e : jZ l r = ([], 4) := by unfold jZ; rw [if_neg (by simp [hc]), if_neg xI, if_neg h2, if_pos ha]
     rw [e] at h; cases h
    ·by_cases hd : uY [] r.Steps = true
     ·have e : jZ l r = ([], 5) := by unfold jZ; rw [if_neg (by simp [hc]), if_neg xI, if_neg h2, if_neg ha, if_pos hd]
      rw [e] at h; cases h
     ·have e : jZ l r = zm l r := by unfold jZ; rw [if_neg (by simp [hc]), if_neg xI, if_neg h2, if_neg ha, if_neg hd]
      refine ⟨hc, aey hc, by omega, by omega, by omega, fun s hm => List.all_eq_true.1 (by simpa using ha) s hm, by simpa using hd, ?_⟩
      rw [e] at h ⊢
      unfold zm at h ⊢
      cases hp : PV l r.Steps with
      | none => rw [hp] at h; cases h
      | some q => rfl
 ·have e : jZ l r = ([], 1) := by unfold jZ; rw [if_pos hc]
  rw [e] at h; cases h
theorem LY {l : Layout} (v : Val l) {s : Step} (h : qp l s = true) : idx l.Sections s.Section = some (mJ l s) ∧ 1 ≤ (mJ l s).Length ∧ (mJ l s).Length ≤ 400 ∧ -40 ≤ (mJ l s).jT ∧ (mJ l s).jT ≤ 40 := by
 unfold qp at h
 simp only [Bool.and_eq_true, decide_eq_true_eq] at h
 have hlt : s.Section.toNat < l.Sections.length := by omega
 have hm : mJ l s ∈ l.Sections := by unfold mJ; simp [hlt]
 have := v.secs _ hm
 exact ⟨xV h.1.1 h.1.2, this.1, this.2.1, this.2.2.2.2.1, this.2.2.2.2.2⟩
theorem adr (l : Layout) (r : aI) : Je l r = some (xB l r) := by
 unfold Je xB
 rw [VI, Option.bind_some]
 by_cases h0 : (jZ l r).2 = 0
 ·have o := QG h0
  have v := o.v
  rw [if_neg (by simp [h0]), if_neg (by simp [h0])]
  have := o.len; have := o.ov; have := o.two
  have hs : sub r.Steps 0 ((r.Steps.length : Int) - r.Overlap) = some (r.Steps.take ((r.Steps.length : Int) - r.Overlap).toNat) := by
   unfold sub
   rw [if_pos (by omega)]
   simp
  rw [jK (mF (by omega) (by omega)), hs, Option.bind_some]
  generalize hT : r.Steps.take ((r.Steps.length : Int) - r.Overlap).toNat = T
  have hTl : T.length ≤ 24 := by rw [← hT, List.length_take]; omega
  have ZO : ∀ s ∈ T, qp l s = true := fun s hm => o.st s (List.mem_of_mem_take (by rw [← hT] at hm; exact hm))
  have := vD (B := Fy T l r) (fun (s : List Cell) i => (s, i)) T (fun s i => s.length ≤ 400 * i) (fun s q => some (cellsE l r (s ++ J5 l q))) ?_ ?_ FUEL [] 0 (by simp) (by omega) (lJ (by omega))
  ·simpa using this
  ·intro c s i x q hI hdr hi hx hk
   have hm : x ∈ T := List.mem_of_mem_drop (i := i) (by rw [hdr]; exact List.mem_cons_self)
   obtain ⟨hsx, s1, s2, s3, s4⟩ := LY v (ZO x hm)
   simp only [Fy]
   rw [if_pos (by simp; omega), hx, Option.bind_some, hsx, Option.bind_some]
   have hrep : ∀ g : Int, A9 (mJ l x) s c i g = c (s ++ List.replicate (mJ l x).Length.toNat (Cell.mk (mJ l x).Limit g), i + 1) := by
    intro g
    unfold A9
    have := adD (Cell.mk (mJ l x).Limit g) (mJ l x).Length.toNat (by omega) (by omega)
    rw [Int.toNat_of_nonneg (by omega)] at this
    rw [this, Option.bind_some, jK (by simp; omega)]
   have hgo : (if decide (x.Dir = 1) = true then bq (bP (-(mJ l x).jT)) (A9 (mJ l x) s c i (-(mJ l x).jT)) else A9 (mJ l x) s c i (mJ l x).jT) = c (s ++ List.replicate (mJ l x).Length.toNat (cellOf l x), i + 1) := by
    unfold cellOf
    by_cases hd : x.Dir = 1
    ·rw [if_pos (by simpa using hd), if_pos hd, jK (mF (by omega) (by omega)), hrep]
    ·rw [if_neg (by simpa using hd), if_neg hd, hrep]
   rw [hgo, hk _ (by simp; omega)]
   simp [J5, List.flatMap_cons]
  ·intro c s hI
   simp only [Fy]
   rw [if_neg (by simp)]
   unfold QH cellsE
   simp only [J5, List.flatMap_nil, List.append_nil]
   by_cases hb : 4000 < s.length
   ·rw [if_pos (by simp; omega), if_pos hb]
   ·rw [if_neg (by simp; omega), if_neg hb]
    have h00 : 0 < r.Steps.length := by omega
    have hi0 : idx r.Steps 0 = some (r.Steps.getD 0 default) := xV (by omega) (by omega)
    have hm0 : r.Steps.getD 0 default ∈ r.Steps := by simp [h00]
    rw [hi0, Option.bind_some, (LY v (o.st _ hm0)).1, Option.bind_some]
 ·rw [if_pos (by simp [h0]), if_pos h0]
end Go.Proofs.Ytcalibhfgdncaaa

/- The program's words.Name is the predicate of names. -/
import Derived.Test.YtcalibhfgdncaaaTk
import Derived.Test.YtcalibhfgdncaaaWa
set_option linter.all false
namespace Go.Proofs.Ytcalibhfgdncaaa
open Go.Dc
theorem UA (c : Int) : JI c = some (sD c) := rfl
theorem ab3 (c : Int) : Mk c = some (yQ c) := rfl
theorem U5 (s : Str) : FV s = some (qU s.ba) := by
 unfold FV qU
 rw [Str.Dy]
 by_cases h : 1 ≤ s.l.length ∧ s.l.length ≤ 12
 ·have hg : (!(decide ((s.l.length : Int) < 1) || decide (12 < (s.l.length : Int)))) = true := by simp; omega
  rw [sI hg]
  have h0 := SQ (s := s) (i := 0) (by omega)
  rw [show ((0 : Nat) : Int) = 0 from rfl] at h0
  rw [h0]
  simp only [Option.bind_some]
  rw [sI hg, UA]
  simp only [Option.bind_some]
  by_cases hL : sD (Go.gY.bt s.ba 0) = true
  ·rw [if_neg (by simp [hL]; omega), jK (by simp; omega)]
   have := vD (B := FU s) (fun (_ : Unit) i => i) (List.range s.l.length) (fun _ _ => True) (fun _ r => some (r.all fun i => uj (Go.gY.bt s.ba i))) ?_ ?_ FUEL () 0 trivial (by omega) (lJ (by simp; omega))
   ·rw [this, List.drop_zero]
    simp [hL, h.1, h.2]
   ·intro c _ i x r _ hdr hi hx hk
    simp only [List.length_range] at hi
    have hxi : x = i := by
     have := List.getElem?_drop (xs := List.range s.l.length) (i := i) (j := 0)
     rw [hdr] at this
     simp [hi] at this
     omega
    subst hxi
    have hb := SQ (s := s) (i := x) hi
    simp only [FU]
    rw [if_pos (by simp; omega), hb]
    simp only [Option.bind_some]
    rw [UA]
    simp only [Option.bind_some]
    by_cases a1 : sD (Go.gY.bt s.ba x) = true
    ·rw [yB (by simp [a1])]
     simp only [Option.bind_some]
     rw [yB (by simp [a1])]
     simp only [Option.bind_some]
     rw [yB (by simp [a1])]
     simp only [Option.bind_some]
     rw [if_neg (by simp [a1]), hk () trivial]
     simp [uj, a1]
    ·have a1' : sD (Go.gY.bt s.ba x) = false := by simpa using a1
     rw [sI (by simp [a1'])]
     simp only [Option.bind_some]
     rw [sI (by simp [a1']), ab3]
     simp only [Option.bind_some]
     by_cases a2 : yQ (Go.gY.bt s.ba x) = true
     ·rw [yB (by simp [a2])]
      simp only [Option.bind_some]
      rw [if_neg (by simp [a2]), hk () trivial]
      simp [uj, a2]
     ·have MU : yQ (Go.gY.bt s.ba x) = false := by simpa using a2
      rw [sI (by simp [a1', MU])]
      simp only [Option.bind_some]
      by_cases a3 : Go.gY.bt s.ba x = 95
      ·rw [if_neg (by simp [a3]), hk () trivial]
       simp [uj, a3]
      ·rw [if_pos (by simp [a1', MU, a3])]
       simp [uj, a1', MU, a3]
   ·intro c _ _
    simp only [FU]
    rw [if_neg (by simp)]
    rfl
  ·have hL' : sD (Go.gY.bt s.ba 0) = false := by simpa using hL
   rw [if_pos (by simp [hL'])]
   simp [hL']
 ·have hg : (!(decide ((s.l.length : Int) < 1) || decide (12 < (s.l.length : Int)))) = false := by simp; omega
  rw [yB hg]
  simp only [Option.bind_some]
  rw [yB hg]
  simp only [Option.bind_some]
  rw [if_pos (by simp [Int.not_lt.mp, h] <;> omega)]
  have : (decide (1 ≤ s.l.length) && decide (s.l.length ≤ 12)) = false := by simp; omega
  simp [this]
end Go.Proofs.Ytcalibhfgdncaaa

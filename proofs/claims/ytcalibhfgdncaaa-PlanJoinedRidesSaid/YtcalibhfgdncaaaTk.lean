/- The reference's Check of layouts is the program's; valid layouts. -/
import Derived.Test.YtcalibhfgdncaaaQ1
import Derived.Test.YtcalibhfgdncaaaRb
import Derived.Test.YtcalibhfgdncaaaLm
set_option linter.all false
namespace Go.Proofs.Ytcalibhfgdncaaa
open Go.Dc
theorem SQ {s : Str} {i : Nat} (h : i < s.l.length) : nP s (i : Int) = some (Go.gY.bt s.ba i) := by
 simp [nP, Go.gY.bt, Str.ba, h, idx]
end Go.Proofs.Ytcalibhfgdncaaa
namespace Go.Proofs.Ytcalibhfgdncaaa
open Go.Dc
end Go.Proofs.Ytcalibhfgdncaaa
namespace Go.Proofs.Ytcalibhfgdncaaa
open Go.Dc
theorem J6 {l : Layout} (h : lI (nS l) = 0) : l.aQ.length ≤ 24 ∧ l.aR.length ≤ 48 ∧ l.Sections.length ≤ 96 ∧ l.Links.length ≤ 192 ∧ 0 < l.Sections.length := by
 unfold lI at h
 by_cases hf : rZ (nS l) = true
 ·rw [if_pos hf] at h; omega
 ·rw [if_neg hf] at h
  unfold rZ at hf
  simp only [nS, List.length_map, decide_eq_true_eq] at hf h
  by_cases h0 : l.Sections.length = 0
  ·rw [if_pos h0] at h; omega
  ·omega
theorem UQ (L : Lay) : ∀ (ks done : List eU), sF L done ks = 0 → ∀ k ∈ ks, yc L k = true ∧ ¬ (k.a = k.b ∧ k.jJ = k.kE)
 | [], _, _, k, hm => by simp at hm
 | q :: ks, done, h, k, hm => by
  unfold sF at h
  by_cases h4 : yc L q = false
  ·rw [if_pos h4] at h; cases h
  ·rw [if_neg h4] at h
   by_cases h1 : q.a = q.b ∧ q.jJ = q.kE
   ·rw [if_pos h1] at h; cases h
   ·rw [if_neg h1] at h
    split at h
    ·cases h
    ·split at h
     ·cases h
     ·rcases List.mem_cons.1 hm with e | e
      ·subst e; exact ⟨by simpa using h4, h1⟩
      ·exact UQ L ks _ h k e
theorem Wz (n : Nat) : ∀ (ss : List kW) (seen : List ByteArray), o7 n seen ss = 0 → ∀ s ∈ ss, Da n s = true
 | [], _, _, s, hm => by simp at hm
 | q :: ss, seen, h, s, hm => by
  unfold o7 at h
  by_cases h1 : nU q.name seen ≠ 0
  ·rw [if_pos h1] at h; exact absurd h h1
  ·rw [if_neg h1] at h
   by_cases h4 : Da n q = false
   ·rw [if_pos h4] at h; cases h
   ·rw [if_neg h4] at h
    rcases List.mem_cons.1 hm with e | e
    ·subst e; simpa using h4
    ·exact Wz n ss _ h s e
structure Val (l : Layout) : Prop where
 full : l.aQ.length ≤ 24 ∧ l.aR.length ≤ 48 ∧ l.Sections.length ≤ 96 ∧ l.Links.length ≤ 192 ∧ 0 < l.Sections.length
 secs : ∀ s ∈ l.Sections, 1 ≤ s.Length ∧ s.Length ≤ 400 ∧ 1000 ≤ s.Limit ∧ s.Limit ≤ 100000 ∧ -40 ≤ s.jT ∧ s.jT ≤ 40
 links : ∀ k ∈ l.Links, (0 ≤ k.A ∧ k.A < l.Sections.length) ∧ (0 ≤ k.B ∧ k.B < l.Sections.length) ∧ (k.jR = 0 ∨ k.jR = 1) ∧ (k.jS = 0 ∨ k.jS = 1) ∧ (-1 ≤ k.Point ∧ k.Point < l.aR.length) ∧ ¬ (k.A = k.B ∧ k.jR = k.jS)
theorem aey {l : Layout} (h : lI (nS l) = 0) : Val l := by
 have hf := J6 h
 unfold lI at h
 split at h
 ·cases h
 split at h
 ·cases h
 split at h
 ·rename_i h1; exact absurd h h1
 split at h
 ·rename_i h1; exact absurd h h1
 split at h
 ·rename_i h1; exact absurd h h1
 rename_i hs
 simp only [Decidable.not_not] at hs
 refine ⟨hf, fun s hm => ?_, fun k hm => ?_⟩
 ·have := Wz _ _ _ hs (LZ s) (List.mem_map.2 ⟨s, hm, rfl⟩)
  unfold Da LZ at this
  simp only [Bool.and_eq_true, decide_eq_true_eq] at this
  omega
 ·have := UQ _ _ _ h (Lc k) (List.mem_map.2 ⟨k, hm, rfl⟩)
  have h1 := this.1
  have h2 : ¬ (k.A = k.B ∧ k.jR = k.jS) := this.2
  unfold yc Lc nS at h1
  simp only [List.length_map, Bool.and_eq_true, Bool.or_eq_true, decide_eq_true_eq] at h1
  exact ⟨by omega, by omega, by omega, by omega, by omega, h2⟩
end Go.Proofs.Ytcalibhfgdncaaa

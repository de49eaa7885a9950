/- The reference's Check of layouts is the program's; valid layouts. -/
import Derived.Test.YtohhihdjdelckaaDoorQm
import Derived.Test.YtohhihdjdelckaaDoorRb
import Derived.Test.YtohhihdjdelckaaDoorLm
set_option linter.all false
namespace Go.Proofs.YtohhihdjdelckaaDoor
open Go.Dc

end Go.Proofs.YtohhihdjdelckaaDoor

namespace Go.Proofs.YtohhihdjdelckaaDoor
open Go.Dc

end Go.Proofs.YtohhihdjdelckaaDoor

namespace Go.Proofs.YtohhihdjdelckaaDoor
open Go.Dc

theorem check_full {l : Layout} (h : checkL (layOf l) = 0) : l.Stations.length ≤ 24 ∧ l.Points.length ≤ 48 ∧ l.Sections.length ≤ 96 ∧ l.Links.length ≤ 192 ∧ 0 < l.Sections.length := by
  unfold checkL at h
  by_cases hf : fullB (layOf l) = true
  · rw [if_pos hf] at h; omega
  · rw [if_neg hf] at h
    unfold fullB at hf
    simp only [layOf, List.length_map, decide_eq_true_eq] at hf h
    by_cases h0 : l.Sections.length = 0
    · rw [if_pos h0] at h; omega
    · omega

theorem links_all (L : Lay) : ∀ (ks done : List Lnk), linksErr L done ks = 0 → ∀ k ∈ ks, linkB L k = true ∧ ¬ (k.a = k.b ∧ k.aEnd = k.bEnd)
  | [], _, _, k, hm => by simp at hm
  | q :: ks, done, h, k, hm => by
    unfold linksErr at h
    by_cases h4 : linkB L q = false
    · rw [if_pos h4] at h; cases h
    · rw [if_neg h4] at h
      by_cases h1 : q.a = q.b ∧ q.aEnd = q.bEnd
      · rw [if_pos h1] at h; cases h
      · rw [if_neg h1] at h
        split at h
        · cases h
        · split at h
          · cases h
          · rcases List.mem_cons.1 hm with e | e
            · subst e; exact ⟨by simpa using h4, h1⟩
            · exact links_all L ks _ h k e
theorem secs_all (n : Nat) : ∀ (ss : List Sec) (seen : List ByteArray), secsErr n seen ss = 0 → ∀ s ∈ ss, secB n s = true
  | [], _, _, s, hm => by simp at hm
  | q :: ss, seen, h, s, hm => by
    unfold secsErr at h
    by_cases h1 : nameErr q.name seen ≠ 0
    · rw [if_pos h1] at h; exact absurd h h1
    · rw [if_neg h1] at h
      by_cases h4 : secB n q = false
      · rw [if_pos h4] at h; cases h
      · rw [if_neg h4] at h
        rcases List.mem_cons.1 hm with e | e
        · subst e; simpa using h4
        · exact secs_all n ss _ h s e

structure Val (l : Layout) : Prop where
  full : l.Stations.length ≤ 24 ∧ l.Points.length ≤ 48 ∧ l.Sections.length ≤ 96 ∧ l.Links.length ≤ 192 ∧ 0 < l.Sections.length
  secs : ∀ s ∈ l.Sections, 1 ≤ s.Length ∧ s.Length ≤ 400 ∧ 1000 ≤ s.Limit ∧ s.Limit ≤ 100000 ∧ -40 ≤ s.Grade ∧ s.Grade ≤ 40
  links : ∀ k ∈ l.Links, (0 ≤ k.A ∧ k.A < l.Sections.length) ∧ (0 ≤ k.B ∧ k.B < l.Sections.length) ∧ (k.AEnd = 0 ∨ k.AEnd = 1) ∧ (k.BEnd = 0 ∨ k.BEnd = 1) ∧ (-1 ≤ k.Point ∧ k.Point < l.Points.length) ∧ ¬ (k.A = k.B ∧ k.AEnd = k.BEnd)

theorem val_of {l : Layout} (h : checkL (layOf l) = 0) : Val l := by
  have hf := check_full h
  unfold checkL at h
  split at h
  · cases h
  split at h
  · cases h
  split at h
  · rename_i h1; exact absurd h h1
  split at h
  · rename_i h1; exact absurd h h1
  split at h
  · rename_i h1; exact absurd h h1
  rename_i hs
  simp only [Decidable.not_not] at hs
  refine ⟨hf, fun s hm => ?_, fun k hm => ?_⟩
  · have := secs_all _ _ _ hs (secOf s) (List.mem_map.2 ⟨s, hm, rfl⟩)
    unfold secB secOf at this
    simp only [Bool.and_eq_true, decide_eq_true_eq] at this
    omega
  · have := links_all _ _ _ h (lnkOf k) (List.mem_map.2 ⟨k, hm, rfl⟩)
    have h1 := this.1
    have h2 : ¬ (k.A = k.B ∧ k.AEnd = k.BEnd) := this.2
    unfold linkB lnkOf layOf at h1
    simp only [List.length_map, Bool.and_eq_true, Bool.or_eq_true, decide_eq_true_eq] at h1
    exact ⟨by omega, by omega, by omega, by omega, by omega, h2⟩

end Go.Proofs.YtohhihdjdelckaaDoor

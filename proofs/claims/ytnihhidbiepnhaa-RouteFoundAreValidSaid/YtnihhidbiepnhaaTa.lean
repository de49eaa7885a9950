/- The reference's Check of layouts is the program's. The reference's Check of layouts is the program's: links, and the whole. Valid layouts; the reference's hops, joined and CheckRoute. The reference's CheckRoute is the program's Check. -/
import Derived.Test.YtnihhidbiepnhaaQ1
import Derived.Test.YtnihhidbiepnhaaRb
import Derived.Test.YtnihhidbiepnhaaLayB
import Derived.Test.YtnihhidbiepnhaaT1
import Derived.Test.YtnihhidbiepnhaaRo
namespace Go.Proofs.Ytnihhidbiepnhaa
open Go.Dc

end Go.Proofs.Ytnihhidbiepnhaa

namespace Go.Proofs.Ytnihhidbiepnhaa
open Go.Dc

theorem whn_v {α : Type} (g : Bool) (d v : α) : whn g d (some v) = some (bif g then v else d) := by cases g <;> rfl

end Go.Proofs.Ytnihhidbiepnhaa

namespace Go.Proofs.Ytnihhidbiepnhaa
open Go.Dc

theorem links_all (L : Lay) : ∀ (ks done : List Lnk), linksErr L done ks = 0 → ∀ k ∈ ks, linkB L k = true ∧ ¬ (k.a = k.b ∧ k.aEnd = k.bEnd)
  | [], _, _, k, hm => by simp at hm
  | q :: ks, done, h, k, hm => by
    unfold linksErr at h
    by_cases h4 : linkB L q = false
    · rw [if_pos h4] at h; cases h
    · rw [if_neg h4] at h
      by_cases h1 : q.a = q.b ∧ q.aEnd = q.bEnd
      · rw [if_pos h1] at h; cases h
      · rw [if_neg h1] at h
        split at h
        · cases h
        · split at h
          · cases h
          · rcases List.mem_cons.1 hm with e | e
            · subst e; exact ⟨by simpa using h4, h1⟩
            · exact links_all L ks _ h k e
theorem secs_all (n : Nat) : ∀ (ss : List Sec) (seen : List ByteArray), secsErr n seen ss = 0 → ∀ s ∈ ss, secB n s = true
  | [], _, _, s, hm => by simp at hm
  | q :: ss, seen, h, s, hm => by
    unfold secsErr at h
    by_cases h1 : nameErr q.name seen ≠ 0
    · rw [if_pos h1] at h; exact absurd h h1
    · rw [if_neg h1] at h
      by_cases h4 : secB n q = false
      · rw [if_pos h4] at h; cases h
      · rw [if_neg h4] at h
        rcases List.mem_cons.1 hm with e | e
        · subst e; simpa using h4
        · exact secs_all n ss _ h s e

structure Val (l : Layout) : Prop where
  full : l.Stations.length ≤ 24 ∧ l.Points.length ≤ 48 ∧ l.Sections.length ≤ 96 ∧ l.Links.length ≤ 192 ∧ 0 < l.Sections.length
  secs : ∀ s ∈ l.Sections, 1 ≤ s.Length ∧ s.Length ≤ 400 ∧ 1000 ≤ s.Limit ∧ s.Limit ≤ 100000 ∧ -40 ≤ s.Grade ∧ s.Grade ≤ 40
  links : ∀ k ∈ l.Links, (0 ≤ k.A ∧ k.A < l.Sections.length) ∧ (0 ≤ k.B ∧ k.B < l.Sections.length) ∧ (k.AEnd = 0 ∨ k.AEnd = 1) ∧ (k.BEnd = 0 ∨ k.BEnd = 1) ∧ (-1 ≤ k.Point ∧ k.Point < l.Points.length) ∧ ¬ (k.A = k.B ∧ k.AEnd = k.BEnd)

theorem val_of {l : Layout} (h : checkL (layOf l) = 0) : Val l := by
  have hf := check_full h
  unfold checkL at h
  split at h
  · cases h
  split at h
  · cases h
  split at h
  · rename_i h1; exact absurd h h1
  split at h
  · rename_i h1; exact absurd h h1
  split at h
  · rename_i h1; exact absurd h h1
  rename_i hs
  simp only [Decidable.not_not] at hs
  refine ⟨hf, fun s hm => ?_, fun k hm => ?_⟩
  · have := secs_all _ _ _ hs (secOf s) (List.mem_map.2 ⟨s, hm, rfl⟩)
    unfold secB secOf at this
    simp only [Bool.and_eq_true, decide_eq_true_eq] at this
    omega
  · have := links_all _ _ _ h (lnkOf k) (List.mem_map.2 ⟨k, hm, rfl⟩)
    have h1 := this.1
    have h2 : ¬ (k.A = k.B ∧ k.AEnd = k.BEnd) := this.2
    unfold linkB lnkOf layOf at h1
    simp only [List.length_map, Bool.and_eq_true, Bool.or_eq_true, decide_eq_true_eq] at h1
    exact ⟨by omega, by omega, by omega, by omega, by omega, h2⟩

/-- The hop through a link. -/
def hopTo (k : Link) (x y : Int) : Option Hop := if 0 ≤ x then some ⟨⟨x, if y = 1 then 1 else 0⟩, k.Point, k.Pos⟩ else none
def hopF (s : Step) (k : Link) : Option Hop :=
  if k.A = s.Section ∧ k.AEnd = (if s.Dir = 1 then 0 else 1) then hopTo k k.B k.BEnd
  else if k.B = s.Section ∧ k.BEnd = (if s.Dir = 1 then 0 else 1) then hopTo k k.A k.AEnd else none
def hopsF (l : Layout) (s : Step) : List Hop := l.Links.filterMap (hopF s)

def joinF (l : Layout) (a b : Step) : Hop × Bool :=
  match (hopsF l a).find? (fun h => decide (h.To = b)) with
  | some h => (h, true)
  | none => (Hop.mk (Step.mk 0 0) 0 0, false)

/-- The hop that leads on is the link that joins. -/
theorem join_tr {l : Layout} (v : Val l) {a b : Step} (ha : isS l a = true) (hb : isS l b = true) : tr l a b = ((joinF l a b).1.Point, (joinF l a b).2) := by
  unfold isS at ha hb
  simp only [Bool.and_eq_true, Bool.or_eq_true, decide_eq_true_eq] at ha hb
  unfold tr joinF hopsF
  have key : ∀ ks : List Link, (∀ k ∈ ks, k ∈ l.Links) → trF (leaveF a) (leaveF (revF b)) ks = (match (ks.filterMap (hopF a)).find? (fun h => decide (h.To = b)) with | some h => (h.Point, true) | none => (0, false)) := by
    intro ks
    induction ks with
    | nil => intro _; rfl
    | cons k ks ih =>
      intro hk
      have vk := v.links k (hk k List.mem_cons_self)
      have ih' := ih (fun q h => hk q (List.mem_cons_of_mem _ h))
      have hl1 : leaveF a = ⟨a.Section, if a.Dir = 1 then 0 else 1⟩ := by
        unfold leaveF
        rcases ha.2 with h | h
        · rw [if_pos h, if_neg (by omega)]
        · rw [if_neg (by omega), if_pos h]
      have hl2 : leaveF (revF b) = ⟨b.Section, b.Dir⟩ := by
        unfold leaveF revF
        rcases hb.2 with h | h
        · simp [h]
        · simp [h]
      have hstep : ∀ (x y : Int), (y = 0 ∨ y = 1) → ((Step.mk x (if y = 1 then 1 else 0) = b) ↔ (x = b.Section ∧ y = b.Dir)) := by
        intro x y hy
        obtain ⟨bs, bd⟩ := b
        simp only [Step.mk.injEq]
        rcases hy with h | h <;> simp [h]
      have hj : joinK (leaveF a) (leaveF (revF b)) k = true ↔ ∃ h, hopF a k = some h ∧ h.To = b := by
        rw [hl1, hl2]
        unfold joinK
        simp only [Bool.or_eq_true, Bool.and_eq_true, decide_eq_true_eq, Route_end.mk.injEq]
        unfold hopF hopTo
        by_cases h1 : k.A = a.Section ∧ k.AEnd = (if a.Dir = 1 then 0 else 1)
        · rw [if_pos h1, if_pos vk.2.1.1]
          simp only [Option.some.injEq, exists_eq_left']
          rw [hstep _ _ vk.2.2.2.1]
          constructor
          · rintro (⟨_, h⟩ | ⟨h2, h3⟩)
            · exact h
            · exact absurd ⟨h1.1.trans h3.1.symm, h1.2.trans h3.2.symm⟩ vk.2.2.2.2.2
          · intro h; exact .inl ⟨h1, h⟩
        · rw [if_neg h1]
          by_cases h2 : k.B = a.Section ∧ k.BEnd = (if a.Dir = 1 then 0 else 1)
          · rw [if_pos h2, if_pos vk.1.1]
            simp only [Option.some.injEq, exists_eq_left']
            rw [hstep _ _ vk.2.2.1]
            constructor
            · rintro (⟨h, _⟩ | ⟨h, _⟩)
              · exact absurd h h1
              · exact h
            · intro h; exact .inr ⟨h, h2⟩
          · rw [if_neg h2]
            simp only [reduceCtorEq, false_and, exists_false, iff_false]
            rintro (⟨h, _⟩ | ⟨_, h⟩)
            · exact h1 h
            · exact h2 h
      have ht : ∀ x y h, hopTo k x y = some h → h.Point = k.Point := by
        intro x y h e
        unfold hopTo at e
        by_cases h0 : 0 ≤ x
        · rw [if_pos h0] at e; cases e; rfl
        · rw [if_neg h0] at e; cases e
      have hp : ∀ h, hopF a k = some h → h.Point = k.Point := by
        intro h e
        unfold hopF at e
        by_cases h1 : k.A = a.Section ∧ k.AEnd = (if a.Dir = 1 then 0 else 1)
        · rw [if_pos h1] at e; exact ht _ _ _ e
        · rw [if_neg h1] at e
          by_cases h2 : k.B = a.Section ∧ k.BEnd = (if a.Dir = 1 then 0 else 1)
          · rw [if_pos h2] at e; exact ht _ _ _ e
          · rw [if_neg h2] at e; cases e
      simp only [trF]
      by_cases hjk : joinK (leaveF a) (leaveF (revF b)) k = true
      · rw [if_pos hjk]
        obtain ⟨h, e1, e2⟩ := hj.1 hjk
        rw [List.filterMap_cons, e1]
        simp [List.find?_cons, e2, hp h e1]
      · rw [if_neg hjk, ih', List.filterMap_cons]
        cases e : hopF a k with
        | none => rfl
        | some h =>
          have hne : ¬ h.To = b := fun e2 => hjk (hj.2 ⟨h, e, e2⟩)
          simp [List.find?_cons, hne]
  rw [key l.Links (fun k h => h)]
  cases (l.Links.filterMap (hopF a)).find? (fun h => decide (h.To = b)) <;> rfl
end Go.Proofs.Ytnihhidbiepnhaa

namespace Go.Proofs.Ytnihhidbiepnhaa
open Go.Dc

end Go.Proofs.Ytnihhidbiepnhaa

/- Plain laws: the routes that follow the hops of a valid layout. -/
import Derived.Test.YtnihhidbiepnhaaTp
import Derived.Test.YtnihhidbiepnhaaTb
import Derived.Test.YtnihhidbiepnhaaRm
namespace Go.Proofs.Ytnihhidbiepnhaa
open Go.Dc

theorem hop_step {l : Layout} (v : Val l) {a : Step} {h : Hop} (hm : h ∈ hopsF l a) : isS l h.To = true := by
  unfold hopsF at hm
  obtain ⟨k, hk, e⟩ := List.mem_filterMap.1 hm
  obtain ⟨ha, hb, hae, hbe, _⟩ := v.links k hk
  have key : ∀ x y : Int, 0 ≤ x → x < l.Sections.length → hopTo k x y = some h → isS l h.To = true := by
    intro x y h0 h1 e
    unfold hopTo at e
    rw [if_pos h0] at e
    cases e
    unfold isS
    simp only
    by_cases hy : y = 1 <;> simp [hy, h0, h1]
  unfold hopF at e
  generalize (if a.Dir = 1 then (0 : Int) else 1) = z at e
  by_cases c1 : k.A = a.Section ∧ k.AEnd = z
  · rw [if_pos c1] at e; exact key _ _ hb.1 hb.2 e
  · rw [if_neg c1] at e
    by_cases c2 : k.B = a.Section ∧ k.BEnd = z
    · rw [if_pos c2] at e; exact key _ _ ha.1 ha.2 e
    · rw [if_neg c2] at e; cases e
structure Good (l : Layout) (ss : List Step) : Prop where
  st : ∀ s ∈ ss, isS l s = true
  dup : dupAt [] ss = false
  pts : ∃ q, ptsL l ss = some q

structure RouteG (l : Layout) (r : Route) : Prop where
  good : Good l r.Steps
  len : 1 ≤ r.Steps.length ∧ r.Steps.length ≤ 7
  ov : 0 ≤ r.Overlap ∧ r.Overlap ≤ 2
  two : 2 ≤ r.Steps.length → 2 ≤ (r.Steps.length : Int) - r.Overlap

end Go.Proofs.Ytnihhidbiepnhaa

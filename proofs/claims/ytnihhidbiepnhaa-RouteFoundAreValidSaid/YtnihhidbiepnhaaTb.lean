/- Cells of a route: the program's and the reference's. Resources and clashes of routes: the program's and the reference's. Resources and clashes of routes: the reference's; comparisons. Clashes of routes; equal lists; what the laws of routes compare. -/
import Derived.Test.YtnihhidbiepnhaaTa
import Derived.Test.YtnihhidbiepnhaaRe
import Derived.Test.YtnihhidbiepnhaaRq
import Derived.Test.YtnihhidbiepnhaaRr
import Derived.Test.YtnihhidbiepnhaaRs
namespace Go.Proofs.Ytnihhidbiepnhaa
open Go.Dc
set_option maxRecDepth 100000

structure ROk (l : Layout) (r : Route) : Prop where
  ck : checkL (layOf l) = 0
  v : Val l
  len : r.Steps.length ≤ 24
  ov : 0 ≤ r.Overlap ∧ r.Overlap ≤ 2
  two : 2 ≤ (r.Steps.length : Int) - r.Overlap
  st : ∀ s ∈ r.Steps, isS l s = true
  dup : dupAt [] r.Steps = false
  pts : ptsL l r.Steps = some (pointsF l r).1

end Go.Proofs.Ytnihhidbiepnhaa

namespace Go.Proofs.Ytnihhidbiepnhaa
open Go.Dc

/-- The marks of the numbers of a list. -/
def uOf (N : Nat) (S : List Int) : List Bool := (List.range N).map fun (i : Nat) => decide ((i : Int) ∈ S)
theorem uOf_nil (N : Nat) : List.replicate N false = uOf N [] := by
  refine List.ext_getElem (by simp [uOf]) fun i h1 h2 => ?_
  simp [uOf]
theorem uOf_set {N : Nat} {S : List Int} {x : Int} (h0 : 0 ≤ x) (h1 : x < N) : (uOf N S).set x.toNat true = uOf N (S ++ [x]) := by
  refine List.ext_getElem (by simp [uOf]) fun i a b => ?_
  rw [List.getElem_set]
  simp only [uOf, List.getElem_map, List.getElem_range, List.mem_append, List.mem_singleton]
  by_cases e : x.toNat = i
  · rw [if_pos e]
    have : (i : Int) = x := by omega
    simp [this]
  · rw [if_neg e]
    have : ¬ (i : Int) = x := by omega
    simp [this]
theorem uOf_idx {N : Nat} {S : List Int} {x : Int} (h0 : 0 ≤ x) (h1 : x < N) : idx (uOf N S) x = some (decide (x ∈ S)) := by
  have hlt : x.toNat < N := by omega
  unfold idx
  rw [if_pos h0]
  simp only [uOf, List.getElem?_map, List.getElem?_range hlt, Option.map_some]
  rw [Int.toNat_of_nonneg h0]

end Go.Proofs.Ytnihhidbiepnhaa

namespace Go.Proofs.Ytnihhidbiepnhaa
open Go.Dc

end Go.Proofs.Ytnihhidbiepnhaa

namespace Go.Proofs.Ytnihhidbiepnhaa
open Go.Dc

end Go.Proofs.Ytnihhidbiepnhaa

/- Routes: the points of a route and the errors of Check. -/
import Derived.Test.YtnihhidbiepnhaaQ1
import Derived.Test.YtnihhidbiepnhaaRd
namespace Go.Proofs.Ytnihhidbiepnhaa
open Go.Dc

def isS (l : Layout) (s : Step) : Bool := (decide (0 ≤ s.Section) && decide (s.Section < (l.Sections.length : Int))) && (decide (s.Dir = 0) || decide (s.Dir = 1))
def leaveF (s : Step) : Route_end := if s.Dir = 0 then ⟨s.Section, 1⟩ else ⟨s.Section, 0⟩
def revF (s : Step) : Step := if s.Dir = 0 then ⟨s.Section, 1⟩ else ⟨s.Section, 0⟩
def joinK (f t : Route_end) (k : Link) : Bool := (decide (Route_end.mk k.A k.AEnd = f) && decide (Route_end.mk k.B k.BEnd = t)) || (decide (Route_end.mk k.A k.AEnd = t) && decide (Route_end.mk k.B k.BEnd = f))
def trF (f t : Route_end) : List Link → Int × Bool
  | [] => (0, false)
  | k :: r => if joinK f t k then (k.Point, true) else trF f t r
def tr (l : Layout) (s t : Step) : Int × Bool := trF (leaveF s) (leaveF (revF t)) l.Links

/-- The points of the transitions from step a on, if there are all of them. -/
def ptsF (l : Layout) : Step → List Step → Option (List Int)
  | _, [] => some []
  | a, b :: r => if (tr l a b).2 then (ptsF l b r).map ((tr l a b).1 :: ·) else none
def ptsL (l : Layout) : List Step → Option (List Int)
  | [] => some []
  | a :: r => ptsF l a r
/-- A section passed twice. -/
def dupAt : List Int → List Step → Bool
  | _, [] => false
  | seen, s :: r => decide (s.Section ∈ seen) || dupAt (s.Section :: seen) r
def ptsE (l : Layout) (r : Route) : List Int × Int :=
  match ptsL l r.Steps with
  | none => ([], 11)
  | some q => (q, 0)
def pointsF (l : Layout) (r : Route) : List Int × Int :=
  if checkL (layOf l) ≠ 0 then ([], 1) else
  if 24 < r.Steps.length ∨ 2 < r.Overlap then ([], 7) else
  if r.Overlap < 0 ∨ (r.Steps.length : Int) - r.Overlap < 2 then ([], 4) else
  if r.Steps.all (isS l) = false then ([], 4) else
  if dupAt [] r.Steps = true then ([], 5) else ptsE l r

theorem check_full {l : Layout} (h : checkL (layOf l) = 0) : l.Stations.length ≤ 24 ∧ l.Points.length ≤ 48 ∧ l.Sections.length ≤ 96 ∧ l.Links.length ≤ 192 ∧ 0 < l.Sections.length := by
  unfold checkL at h
  by_cases hf : fullB (layOf l) = true
  · rw [if_pos hf] at h; omega
  · rw [if_neg hf] at h
    unfold fullB at hf
    simp only [layOf, List.length_map, decide_eq_true_eq] at hf h
    by_cases h0 : l.Sections.length = 0
    · rw [if_pos h0] at h; omega
    · omega

end Go.Proofs.Ytnihhidbiepnhaa

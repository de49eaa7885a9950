/- Routes: the points of a route and the errors of Check. -/
import Derived.Test.YtnihhidbiepnhaaQ1
import Derived.Test.YtnihhidbiepnhaaRd
namespace Go.Proofs.Ytnihhidbiepnhaa
open Go.Dc

def isS (l : Layout) (s : Step) : Bool := (decide (0 ≤ s.Section) && decide (s.Section < (l.Sections.length : Int))) && (decide (s.Dir = 0) || decide (s.Dir = 1))
def leaveF (s : Step) : Route_end := if s.Dir = 0 then ⟨s.Section, 1⟩ else ⟨s.Section, 0⟩
def revF (s : Step) : Step := if s.Dir = 0 then ⟨s.Section, 1⟩ else ⟨s.Section, 0⟩
def joinK (f t : Route_end) (k : Link) : Bool := (decide (Route_end.mk k.A k.AEnd = f) && decide (Route_end.mk k.B k.BEnd = t)) || (decide (Route_end.mk k.A k.AEnd = t) && decide (Route_end.mk k.B k.BEnd = f))
def trF (f t : Route_end) : List Link → Int × Bool
  | [] => (0, false)
  | k :: r => if joinK f t k then (k.Point, true) else trF f t r
def tr (l : Layout) (s t : Step) : Int × Bool := trF (leaveF s) (leaveF (revF t)) l.Links

theorem leave_m (s : Step) : route_leaving_m s = some (leaveF s) := by
  unfold route_leaving_m leaveF
  by_cases h : s.Dir = 0 <;> simp [h]
theorem rev_m (s : Step) : layout_Reverse_m s = some (revF s) := by
  unfold layout_Reverse_m revF
  by_cases h : s.Dir = 0 <;> simp [h]

theorem tr_m (l : Layout) (s t : Step) (hl : l.Links.length ≤ 1000) : route_transition_m l s t = some (tr l s t) := by
  unfold route_transition_m
  rw [leave_m, rev_m]
  simp only [Option.bind_some]
  rw [leave_m]
  simp only [Option.bind_some]
  unfold route_transition_k1 tr
  have := iter_list (B := route_transition_b1 l (leaveF s).section_ (leaveF s).side (leaveF (revF t)).section_ (leaveF (revF t)).side) (fun (_ : Unit) i => i) l.Links (fun _ _ => True) (fun _ r => some (trF (leaveF s) (leaveF (revF t)) r)) ?_ ?_ FUEL () 0 trivial (by omega) (fuel_of (by omega))
  · simpa using this
  · intro c _ i k r _ _ hi hx hc
    simp only [route_transition_b1]
    rw [if_pos (by simp; omega), hx]
    simp only [Option.bind_some, trF]
    have hc' := hc () trivial
    show (if joinK (leaveF s) (leaveF (revF t)) k = true then some (k.Point, true) else c (i + 1)) = _
    by_cases hj : joinK (leaveF s) (leaveF (revF t)) k = true
    · rw [if_pos hj, if_pos hj]
    · rw [if_neg hj, if_neg hj, ← hc']
  · intro c _ _
    simp only [route_transition_b1]
    rw [if_neg (by simp)]
    rfl

/-- The points of the transitions from step a on, if there are all of them. -/
def ptsF (l : Layout) : Step → List Step → Option (List Int)
  | _, [] => some []
  | a, b :: r => if (tr l a b).2 then (ptsF l b r).map ((tr l a b).1 :: ·) else none
def ptsL (l : Layout) : List Step → Option (List Int)
  | [] => some []
  | a :: r => ptsF l a r
/-- A section passed twice. -/
def dupAt : List Int → List Step → Bool
  | _, [] => false
  | seen, s :: r => decide (s.Section ∈ seen) || dupAt (s.Section :: seen) r
def ptsE (l : Layout) (r : Route) : List Int × Int :=
  match ptsL l r.Steps with
  | none => ([], 11)
  | some q => (q, 0)
def pointsF (l : Layout) (r : Route) : List Int × Int :=
  if checkL (layOf l) ≠ 0 then ([], 1) else
  if 24 < r.Steps.length ∨ 2 < r.Overlap then ([], 7) else
  if r.Overlap < 0 ∨ (r.Steps.length : Int) - r.Overlap < 2 then ([], 4) else
  if r.Steps.all (isS l) = false then ([], 4) else
  if dupAt [] r.Steps = true then ([], 5) else ptsE l r

theorem check_full {l : Layout} (h : checkL (layOf l) = 0) : l.Stations.length ≤ 24 ∧ l.Points.length ≤ 48 ∧ l.Sections.length ≤ 96 ∧ l.Links.length ≤ 192 ∧ 0 < l.Sections.length := by
  unfold checkL at h
  by_cases hf : fullB (layOf l) = true
  · rw [if_pos hf] at h; omega
  · rw [if_neg hf] at h
    unfold fullB at hf
    simp only [layOf, List.length_map, decide_eq_true_eq] at hf h
    by_cases h0 : l.Sections.length = 0
    · rw [if_pos h0] at h; omega
    · omega

theorem pts3 (l : Layout) (r : Route) (hl : l.Links.length ≤ 1000) (h2 : 2 ≤ r.Steps.length) (h24 : r.Steps.length ≤ 24) :
    route_points_k4 r l () = some (ptsE l r) := by
  unfold route_points_k4
  have hs : sub r.Steps 1 (r.Steps.length : Int) = some (r.Steps.drop 1) := by
    unfold sub; rw [if_pos (by omega)]
    simp
  rw [hs]
  simp only [Option.bind_some]
  obtain ⟨a, rest, hS⟩ : ∃ a rest, r.Steps = a :: rest := by
    cases h : r.Steps with
    | nil => rw [h] at h2; simp at h2
    | cons a rest => exact ⟨a, rest, rfl⟩
  have hd : r.Steps.drop 1 = rest := by rw [hS]; rfl
  rw [hd]
  have hrl : r.Steps.length = rest.length + 1 := by rw [hS]; rfl
  have := iter_list (B := route_points_b3 rest r l) (fun (s : List Int × Step) i => (s.1, i)) rest (fun s i => r.Steps[i]? = some s.2 ∧ s.1.length ≤ i)
    (fun s q => some (match ptsF l s.2 q with | none => ([], 11) | some z => (s.1 ++ z, 0))) ?_ ?_ FUEL ([], a) 0 ⟨by rw [hS]; rfl, by simp⟩ (by omega) (fuel_of (by omega))
  · simp only [List.nil_append, List.drop_zero] at this
    rw [this]
    unfold ptsE
    rw [hS]
    rfl
  · rintro c ⟨s, p⟩ i x q ⟨hp, hsl⟩ hdr hi hx hc
    simp only at hp hsl
    simp only [route_points_b3]
    rw [if_pos (by simp; omega), hx]
    simp only [Option.bind_some]
    rw [idx_nat, hp]
    simp only [Option.bind_some]
    rw [tr_m l p x hl]
    simp only [Option.bind_some, ptsF]
    by_cases ht : (tr l p x).2 = true
    · rw [if_neg (by simp [ht]), chk_true (by simp; omega), if_pos ht]
      have hn : r.Steps[i + 1]? = some x := by
        rw [hS, List.getElem?_cons_succ]
        have := hx
        rw [idx_nat] at this
        exact this
      have h := hc (s ++ [(tr l p x).1], x) ⟨hn, by simp; omega⟩
      simp only at h
      rw [h]
      cases ptsF l x q with
      | none => rfl
      | some z => simp
    · have hf : (tr l p x).2 = false := by simpa using ht
      rw [if_pos (by simp [hf]), if_neg ht]
  · rintro c ⟨s, p⟩ _
    simp only [route_points_b3]
    rw [if_neg (by simp)]
    simp [route_points_k5, ptsF]

theorem pts2 (l : Layout) (r : Route) (hc : checkL (layOf l) = 0) (h2 : 2 ≤ r.Steps.length) (h24 : r.Steps.length ≤ 24) (ha : r.Steps.all (isS l) = true) :
    route_points_k3 l r () = some (if dupAt [] r.Steps = true then (([] : List Int), (5 : Int)) else ptsE l r) := by
  have hf := check_full hc
  unfold route_points_k3
  rw [mk_bool (by omega) (by omega)]
  simp only [Option.bind_some]
  have := iter_list (B := route_points_b2 r l) (fun (s : List Bool × List Int) i => (s.1, i)) r.Steps (fun s _ => s.1.length = l.Sections.length ∧ ∀ x : Int, 0 ≤ x → x < l.Sections.length → (gb s.1 x = true ↔ x ∈ s.2))
    (fun s q => some (if dupAt s.2 q = true then (([] : List Int), (5 : Int)) else ptsE l r)) ?_ ?_ FUEL (List.replicate (l.Sections.length : Int).toNat false, []) 0 ⟨by simp, fun x x0 x1 => by simp [gb_rep _ _ x x0 (by omega)]⟩ (by omega) (fuel_of (by omega))
  · simp only [List.drop_zero] at this
    exact this
  · rintro c ⟨s, seen⟩ i x q ⟨hl, hs⟩ hdr hi hx hk
    simp only at hl hs
    simp only [route_points_b2]
    have hm : x ∈ r.Steps := List.mem_of_mem_drop (i := i) (by rw [hdr]; exact List.mem_cons_self)
    have hx1 : isS l x = true := List.all_eq_true.1 ha x hm
    unfold isS at hx1
    simp only [Bool.and_eq_true, Bool.or_eq_true, decide_eq_true_eq] at hx1
    rw [if_pos (by simp; omega), hx]
    simp only [Option.bind_some]
    have hb : idx s x.Section = some (gb s x.Section) := by
      have : x.Section.toNat < s.length := by omega
      simp [idx, hx1.1.1, gb, this]
    rw [hb]
    simp only [Option.bind_some]
    have hdd : dupAt seen (x :: q) = (decide (x.Section ∈ seen) || dupAt (x.Section :: seen) q) := rfl
    have hg := hs x.Section hx1.1.1 hx1.1.2
    by_cases hd : gb s x.Section = true
    · rw [if_pos hd]
      rw [if_pos (show dupAt seen (x :: q) = true by rw [hdd]; simp [hg.1 hd])]
    · rw [if_neg hd]
      have hn : ¬ x.Section ∈ seen := fun h => hd (hg.2 h)
      have h := hk (s.set x.Section.toNat true, x.Section :: seen) ⟨by simp [hl], fun z z0 z1 => by
        rw [gb_set _ _ _ _ hx1.1.1 z0 (by omega)]
        by_cases e : z = x.Section
        · simp [e]
        · rw [if_neg e, hs z z0 z1]; simp [e]⟩
      simp only at h
      rw [h, hdd]
      simp [hn]
  · rintro c ⟨s, seen⟩ _
    simp only [route_points_b2]
    rw [if_neg (by simp), pts3 l r (by omega) h2 h24]
    simp [dupAt]

theorem points_m (l : Layout) (r : Route) : route_points_m l r = some (pointsF l r) := by
  unfold route_points_m layout_Check_m
  simp only [Option.bind_some]
  by_cases hc : checkL (layOf l) = 0
  · have hf := check_full hc
    have n1 : ¬ checkL (layOf l) ≠ 0 := by simp [hc]
    rw [if_neg (by simp [hc])]
    by_cases h24 : 24 < r.Steps.length
    · have e : pointsF l r = ([], 7) := by unfold pointsF; rw [if_neg n1, if_pos (.inl h24)]
      rw [e, if_pos (by simp; omega)]
      unfold route_points_k1
      rw [if_pos (by simp; omega)]
    · rw [if_neg (by simp; omega)]
      unfold route_points_k1
      by_cases ho : 2 < r.Overlap
      · have e : pointsF l r = ([], 7) := by unfold pointsF; rw [if_neg n1, if_pos (.inr ho)]
        rw [e, if_pos (by simp; omega)]
      · rw [if_neg (by simp; omega)]
        unfold route_points_k2
        by_cases h0 : r.Overlap < 0
        · have e : pointsF l r = ([], 4) := by unfold pointsF; rw [if_neg n1, if_neg (by omega), if_pos (.inl h0)]
          rw [e, if_pos (by simp; omega), if_pos (by simp; omega)]
        · rw [if_neg (by simp; omega), chk_true (i64b_of (by omega) (by omega))]
          by_cases h2 : (r.Steps.length : Int) - r.Overlap < 2
          · have e : pointsF l r = ([], 4) := by unfold pointsF; rw [if_neg n1, if_neg (by omega), if_pos (.inr h2)]
            rw [e, if_pos (by simp; omega)]
          · have e : pointsF l r = if r.Steps.all (isS l) = false then ([], 4) else if dupAt [] r.Steps = true then ([], 5) else ptsE l r := by unfold pointsF; rw [if_neg n1, if_neg (by omega), if_neg (by omega)]
            rw [e, if_neg (by simp; omega)]
            have := iter_list (B := route_points_b1 r l) (fun (_ : Unit) i => i) r.Steps (fun _ i => (r.Steps.take i).all (isS l) = true)
              (fun _ q => some (if q.all (isS l) = false then (([] : List Int), (4 : Int)) else if dupAt [] r.Steps = true then ([], 5) else ptsE l r)) ?_ ?_ FUEL () 0 (by simp) (by omega) (fuel_of (by omega))
            · simp only [List.drop_zero] at this
              exact this
            · intro c _ i x q hI hdr hi hx hk
              simp only [route_points_b1]
              rw [if_pos (by simp; omega), hx]
              simp only [Option.bind_some, route_isStep_m]
              by_cases hb : isS l x = true
              · have hb' := hb
                unfold isS at hb'
                rw [if_neg (by simp [hb'])]
                have ht : r.Steps.take (i + 1) = r.Steps.take i ++ [x] := by
                  rw [List.take_succ_eq_append_getElem hi]
                  rw [idx_nat, List.getElem?_eq_getElem hi] at hx
                  cases hx; rfl
                have h := hk () (by rw [ht, List.all_append, hI]; simp [hb])
                rw [h]
                simp [hb]
              · have hb' := hb
                unfold isS at hb'
                rw [if_pos (by simp at hb' ⊢; omega)]
                simp [hb]
            · intro c _ hI
              simp only [route_points_b1]
              rw [List.take_length] at hI
              rw [if_neg (by simp), pts2 l r hc (by omega) (by omega) hI]
              simp
  · have e : pointsF l r = ([], 1) := by unfold pointsF; rw [if_pos hc]
    rw [e, if_pos (by simp [hc])]

theorem rcheck_m (l : Layout) (r : Route) : route_Check_m l r = some (pointsF l r).2 := by
  unfold route_Check_m
  rw [points_m]
  rfl
end Go.Proofs.Ytnihhidbiepnhaa

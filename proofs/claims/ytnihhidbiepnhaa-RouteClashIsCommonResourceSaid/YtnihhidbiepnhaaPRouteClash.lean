/- RouteClashIsCommonResource, the plain law. -/
import Derived.Test.YtnihhidbiepnhaaGb
import Derived.Test.YtnihhidbiepnhaaGc
import Derived.Test.YtnihhidbiepnhaaRg
import Derived.Test.YtnihhidbiepnhaaOpens
import Derived.Test.YtnihhidbiepnhaaWRouteClashIsCommonResource
namespace Go.Proofs.Ytnihhidbiepnhaa
open Go.Dc

theorem clash_inner (y8 y11 : List Int × Int) (t : Nat) (c1 : Bool × Nat → Option Bool) (a : Int) (ha : y8.1[t]? = some a) (hl : y11.1.length ≤ 1000) (cm : Bool) :
    iter (law7_RouteClashIsCommonResource_b2 y11 y8 t c1) FUEL (cm, 0) = c1 (cm || decide (a ∈ y11.1), t + 1) := by
  have := iter_list (B := law7_RouteClashIsCommonResource_b2 y11 y8 t c1) (fun (q : Bool) i => (q, i)) y11.1 (fun _ _ => True) (fun q r => c1 (q || decide (a ∈ r), t + 1)) ?_ ?_ FUEL cm 0 trivial (by omega) (fuel_of (by omega))
  · simpa using this
  · intro c q i b r _ hdr hi hx hc
    simp only [law7_RouteClashIsCommonResource_b2]
    rw [if_pos (by simp; omega), idx_nat, ha, whn_v, Option.bind_some, hx, whn_v, Option.bind_some, hc _ trivial]
    congr 2
    cases q with
    | true => simp
    | false => rw [Bool.eq_iff_iff]; simp
  · intro c q _
    simp only [law7_RouteClashIsCommonResource_b2]
    rw [if_neg (by simp)]
    simp [law7_RouteClashIsCommonResource_k3]

theorem clash_outer (y8 y11 : List Int × Int) (x : Layout) (ra : List Step) (rb : Int) (sa : List Step) (sb : Int) (h8 : y8.1.length ≤ 1000) (hl : y11.1.length ≤ 1000) :
    iter (law7_RouteClashIsCommonResource_b1 y8 y11 x ra rb sa sb) FUEL (false, 0) = law7_RouteClashIsCommonResource_k2 x ra rb sa sb (decide (∃ z ∈ y8.1, z ∈ y11.1)) () := by
  have := iter_list (B := law7_RouteClashIsCommonResource_b1 y8 y11 x ra rb sa sb) (fun (q : Bool) i => (q, i)) y8.1 (fun _ _ => True) (fun q r => law7_RouteClashIsCommonResource_k2 x ra rb sa sb (q || decide (∃ z ∈ r, z ∈ y11.1)) ()) ?_ ?_ FUEL false 0 trivial (by omega) (fuel_of (by omega))
  · simpa using this
  · intro c q i b r _ hdr hi hx hc
    simp only [law7_RouteClashIsCommonResource_b1]
    rw [idx_nat] at hx
    rw [if_pos (by simp; omega), clash_inner y8 y11 i c b hx hl q, hc _ trivial]
    congr 1
    rw [Bool.or_assoc]
    congr 1
    rw [Bool.eq_iff_iff]
    simp
  · intro c q _
    simp only [law7_RouteClashIsCommonResource_b1]
    rw [if_neg (by simp)]
    simp

theorem routeClashIsCommonResource_plain (l c d : List Int) (hl : Wf.wf l) (hc : Wf.wf c) (hd : Wf.wf d) : law7_RouteClashIsCommonResource_m l c d = some true := by
  unfold law7_RouteClashIsCommonResource_m
  obtain ⟨x, ex, gx⟩ := layout_m l (by have : l.length * 8 ≤ 140737488351232 := hl.1; omega)
  have vx := gen_val gx
  obtain ⟨r, er, gr⟩ := route_wp vx c (by have : c.length * 8 ≤ 140737488351232 := hc.1; omega)
  obtain ⟨s, es, gs⟩ := route_wp vx d (by have : d.length * 8 ≤ 140737488351232 := hd.1; omega)
  rw [ex, Option.bind_some, er, Option.bind_some, es, Option.bind_some]
  simp only [law7_RouteClashIsCommonResource_k1]
  by_cases h2 : r.Steps.length < 2 ∨ s.Steps.length < 2
  · rw [if_pos (by simp; omega), awake7]; rfl
  · rw [if_neg (by simp; omega), res_m, Option.bind_some, res_m, Option.bind_some]
    obtain ⟨qa, ha, _⟩ := route_pts (gen_check gx) gr (by omega)
    obtain ⟨qb, hb, _⟩ := route_pts (gen_check gx) gs (by omega)
    have ea : resR x r = (idxs (uOf (nRes x) (usedL x r)) 0, 0) := by unfold resR; rw [if_neg (by simp [ha])]
    have eb : resR x s = (idxs (uOf (nRes x) (usedL x s)) 0, 0) := by unfold resR; rw [if_neg (by simp [hb])]
    have er' : (Route.mk r.Steps r.Overlap) = r := rfl
    have es' : (Route.mk s.Steps s.Overlap) = s := rfl
    rw [er', es', ea, eb, clash_outer _ _ _ _ _ _ _ (res_len vx _) (res_len vx _)]
    unfold law7_RouteClashIsCommonResource_k2
    rw [er', es', clash_m, Option.bind_some, clash_m, Option.bind_some, awake7, Option.bind_some]
    unfold clashR
    rw [if_neg (by simp [ha]), if_neg (by simp [hb]), if_neg (by simp [hb]), if_neg (by simp [ha])]
    have hsym : (∃ z ∈ idxs (uOf (nRes x) (usedL x s)) 0, z ∈ idxs (uOf (nRes x) (usedL x r)) 0) ↔ (∃ z ∈ idxs (uOf (nRes x) (usedL x r)) 0, z ∈ idxs (uOf (nRes x) (usedL x s)) 0) := ⟨fun ⟨z, h1, h2⟩ => ⟨z, h2, h1⟩, fun ⟨z, h1, h2⟩ => ⟨z, h2, h1⟩⟩
    simp [decide_eq_decide.2 hsym]
end Go.Proofs.Ytnihhidbiepnhaa

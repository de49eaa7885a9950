/- RouteFinds, the plain law. -/
import Derived.Test.YtnihhidbiepnhaaUb
import Derived.Test.YtnihhidbiepnhaaGb
import Derived.Test.YtnihhidbiepnhaaTs
import Derived.Test.YtnihhidbiepnhaaRg
import Derived.Test.YtnihhidbiepnhaaOpens
import Derived.Test.YtnihhidbiepnhaaWRouteFinds
namespace Go.Proofs.Ytnihhidbiepnhaa
open Go.Dc
theorem routeFinds_plain (raw : Layout) (l : List Int) (v to_ budget : Int) (hr : Wf.wf raw) (hl : Wf.wf l) (hv : -9223372036854775808 ≤ v ∧ v ≤ 9223372036854775807) (_ht : -9223372036854775808 ≤ to_ ∧ to_ ≤ 9223372036854775807) (_hb : -9223372036854775808 ≤ budget ∧ budget ≤ 9223372036854775807) :
    law7_RouteFinds_m raw l v to_ budget = some true := by
  unfold law7_RouteFinds_m
  obtain ⟨x, ex, gx⟩ := layout_m l (by have : l.length * 8 ≤ 140737488351232 := hl.1; omega)
  have vx := (gen_val gx).full
  have hrs : raw.Sections.length ≤ 140737488355328 := by
    have : raw.Sections.length * _ ≤ 140737488351232 := hr.2.2.1.1
    have hb : GoRep.bytes Section = 48 := rfl
    rw [hb] at this
    omega
  obtain ⟨s1, hs1⟩ := step_some' raw hrs v hv
  obtain ⟨s2, hs2⟩ := step_some' x (by omega) v hv
  obtain ⟨k1, hk1, k10, k11⟩ := pick_m budget 300 (by omega) (by omega)
  obtain ⟨k2, hk2, k20, k21⟩ := pick_m to_ ((x.Sections.length : Int) + 2) (by omega) (by omega)
  obtain ⟨k3, hk3, k30, k31⟩ := pick_m budget 60 (by omega) (by omega)
  obtain ⟨k4, hk4, k40, k41⟩ := pick_m to_ (x.Sections.length : Int) (by omega) (by omega)
  rw [ex, Option.bind_some, awake7, Option.bind_some, hs1, whn_v, Option.bind_some, hk1, whn_v, Option.bind_some]
  simp only [cond_true]
  rw [chk_true (by rw [i64b_of (by omega) (by omega)]; rfl), finds_m, whn_v, Option.bind_some]
  simp only [cond_true, Bool.and_self]
  rw [chk_true (by rw [i64b_of (by omega) (by omega)]; rfl), hs2, whn_v, Option.bind_some, hk2, whn_v, Option.bind_some]
  simp only [cond_true]
  rw [chk_true (by rw [i64b_of (by omega) (by omega)]; rfl), hk3, whn_v, Option.bind_some]
  simp only [cond_true]
  rw [chk_true (by rw [i64b_of (by omega) (by omega)]; rfl), finds_m, whn_v, Option.bind_some]
  simp only [cond_true, Bool.and_self]
  rw [whn_v, Option.bind_some, hk4, whn_v, Option.bind_some]
  simp only [cond_true]
  rw [finds_m, whn_v, Option.bind_some]
  rfl
end Go.Proofs.Ytnihhidbiepnhaa

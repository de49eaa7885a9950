/- RouteRaw, the plain law. -/
import Derived.Test.YtnihhidbiepnhaaTb
import Derived.Test.YtnihhidbiepnhaaRg
import Derived.Test.YtnihhidbiepnhaaOpens
import Derived.Test.YtnihhidbiepnhaaWRouteRaw
namespace Go.Proofs.Ytnihhidbiepnhaa
open Go.Dc

theorem example_some : ∃ l, law7_example_m = some l := by
  have h : law7_example_m.isSome = true := by decide +kernel
  exact Option.isSome_iff_exists.1 h

theorem routeRaw_plain (l : Layout) (r s : Route) (_ : Wf.wf l) (_ : Wf.wf r) (_ : Wf.wf s) : law7_RouteRaw_m l r s = some true := by
  obtain ⟨x, hx⟩ := example_some
  unfold law7_RouteRaw_m
  simp only [awake7, lawCells_m, lawRes_m, hx, whn_v, Option.bind_some, Bool.and_self, cond_true, if_true]
end Go.Proofs.Ytnihhidbiepnhaa

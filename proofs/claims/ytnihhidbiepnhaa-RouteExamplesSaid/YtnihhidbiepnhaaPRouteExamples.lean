/- RouteExamples, the plain law. -/
import Derived.Test.YtnihhidbiepnhaaWRouteExamples
namespace Go.Proofs.Ytnihhidbiepnhaa
theorem routeExamples_plain : law7_RouteExamples_m = some true := by decide +kernel
end Go.Proofs.Ytnihhidbiepnhaa

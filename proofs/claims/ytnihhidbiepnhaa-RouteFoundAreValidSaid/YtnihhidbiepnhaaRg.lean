/- awake of railplanlaw7. -/
import Derived.Test.YtnihhidbiepnhaaRf
namespace Go.Proofs.Ytnihhidbiepnhaa
open Go.Dc
set_option maxRecDepth 100000
theorem awake7 : law7_awake_m = some true := by decide +kernel
end Go.Proofs.Ytnihhidbiepnhaa

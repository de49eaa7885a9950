/- The example of chapter 28. -/
import Derived.Test.YtedocibniankjaaCc
namespace Go.Proofs.Ytedocibniankjaa
open Go.Dc Go.RowKit
theorem awake28 : law28_awake_m = some true := by decide +kernel
end Go.Proofs.Ytedocibniankjaa

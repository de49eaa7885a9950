/- The example of chapter 27. -/
import Derived.Test.YtedocibniankjaaFe
namespace Go.Proofs.Ytedocibniankjaa
open Go.Dc Go.RowKit
theorem awake27 : law27_awake_m = some true := by decide +kernel
end Go.Proofs.Ytedocibniankjaa

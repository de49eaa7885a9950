/- strings.Index at a substring of one byte: its contract. -/
import Derived.Test.YtcalibhfgdncaaaGreatDoorTypes
import Derived.Test.YtcalibhfgdncaaaGreatDoorSh
set_option linter.all false
namespace Go.Proofs.YtcalibhfgdncaaaGreatDoor
open Go.Dc Go.RowKit
end Go.Proofs.YtcalibhfgdncaaaGreatDoor

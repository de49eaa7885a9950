/- Engine of the decompiler, part 11: what a row's reading gives of an argument, as typed data. -/
import Derived.Test.YtcalibhfgdncaaaGreatDoorDm
import Derived.Deep.Slices
import Derived.SizedLaws
import Derived.ProofKit
set_option linter.all false
namespace Go.Dc
open Go.RowKit GoRep
class Wf (α : Type) where
 wf : α → Prop
open Wf
instance : Wf Int := ⟨fun x => -9223372036854775808 ≤ x ∧ x ≤ 9223372036854775807⟩
instance : Wf Bool := ⟨fun _ => True⟩
instance : Wf UInt8 := ⟨fun _ => True⟩
instance : Wf Str := ⟨fun s => s.l.length ≤ 140737488351232⟩
instance {α : Type} [GoRep α] [Wf α] : Wf (List α) := ⟨fun xs => xs.length * GoRep.bytes α ≤ 140737488351232 ∧ ∀ x ∈ xs, wf x⟩
section
variable {P : Program} {t e : TypeId}
/-! structs -/
end
end Go.Dc

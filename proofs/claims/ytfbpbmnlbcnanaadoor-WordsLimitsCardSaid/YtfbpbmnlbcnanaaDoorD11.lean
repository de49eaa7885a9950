/- Engine of the decompiler, part 11: what a row's reading gives of an argument, as typed data. -/
import Derived.Test.YtfbpbmnlbcnanaaDoorDm
import Derived.Deep.Slices
import Derived.SizedLaws
import Derived.ProofKit
namespace Go.Dc
open Go.RowKit GoRep

/-- What Go's types say of data. -/
class Wf (α : Type) where
  wf : α → Prop
open Wf
instance : Wf Int := ⟨fun x => -9223372036854775808 ≤ x ∧ x ≤ 9223372036854775807⟩
instance : Wf Bool := ⟨fun _ => True⟩
instance : Wf UInt8 := ⟨fun _ => True⟩
instance : Wf Str := ⟨fun s => s.l.length ≤ 140737488351232⟩
instance {α : Type} [GoRep α] [Wf α] : Wf (List α) := ⟨fun xs => xs.length * GoRep.bytes α ≤ 140737488351232 ∧ ∀ x ∈ xs, wf x⟩

/-- Whatever is read at type t is data of α. -/
def Opens (P : Program) (t : TypeId) (α : Type) [GoRep α] [Wf α] : Prop :=
  ∀ {H : Type} {enc : TypeId × Value → H} {w : World} {held : Bool} {fuel : Nat} {cs : List Value} {x : DataW H × List MemPlace}, DataW.trod enc P w 0 (fun _ => true) held fuel t cs = some x →
    (∀ n ∈ x.1.weights P t, n ≤ reachBytes) → ∃ (r : R α) (a : α), cs = GoRep.enc r a ∧ ok (fun k => k < w.heap.size) w r a ∧ wf a

section
variable {P : Program} {t e : TypeId}
theorem opens_str (ht : P.underlying t = some .string) : Opens P t Str := fun h hw => by
  obtain ⟨s, rfl, rfl, _⟩ := DataW.trod_string ht h
  refine ⟨(), Str.of s, by show _ = [Value.string (Str.of s).ba]; rw [Str.ba_of], trivial, ?_⟩
  have := hw s.data.toList.length (by simp [DataW.weights])
  exact this

/-! structs -/
end
end Go.Dc

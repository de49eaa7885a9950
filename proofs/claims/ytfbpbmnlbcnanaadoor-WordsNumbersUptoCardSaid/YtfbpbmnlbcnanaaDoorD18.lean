/- Engine of the decompiler, part 18: how much is read: the bulk of an argument. -/
import Derived.Test.YtfbpbmnlbcnanaaDoorD11
namespace Go.Dc
open Go.RowKit GoRep Wf

/-- Whatever is read at type t is data of α, of a size that the reading bears. -/
def OpensB (ub : (H : Type) → DataW H → Nat) (P : Program) (t : TypeId) (α : Type) [GoRep α] [Wf α] (sz : α → Nat) : Prop :=
  ∀ {H : Type} {enc : TypeId × Value → H} {w : World} {held : Bool} {fuel : Nat} {cs : List Value} {x : DataW H × List MemPlace}, DataW.trod enc P w 0 (fun _ => true) held fuel t cs = some x →
    (∀ n ∈ x.1.weights P t, n ≤ reachBytes) → ∃ (r : R α) (a : α), cs = GoRep.enc r a ∧ ok (fun k => k < w.heap.size) w r a ∧ wf a ∧ sz a ≤ ub H x.1
section
variable {P : Program} {t e : TypeId} {ub : (H : Type) → DataW H → Nat}
theorem opensB_of {α : Type} [GoRep α] [Wf α] (h : Opens P t α) : OpensB ub P t α (fun _ => 0) := fun hx hw => let ⟨r, a, h1, h2, h3⟩ := h hx hw; ⟨r, a, h1, h2, h3, Nat.zero_le _⟩
theorem opensB_str (ht : P.underlying t = some .string) (hs : ∀ (H : Type) (b : List UInt8), b.length + 1 ≤ ub H (.lit (.string b))) : OpensB ub P t Str (fun s => s.l.length + 1) := fun h hw => by
  obtain ⟨s, rfl, rfl, _⟩ := DataW.trod_string ht h
  refine ⟨(), Str.of s, by show _ = [Value.string (Str.of s).ba]; rw [Str.ba_of], trivial, ?_, hs _ _⟩
  have := hw s.data.toList.length (by simp [DataW.weights])
  exact this
end
end Go.Dc

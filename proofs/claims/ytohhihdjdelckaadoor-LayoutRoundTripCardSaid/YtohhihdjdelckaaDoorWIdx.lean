/- strings.Index at a substring of one byte: its contract. -/
import Derived.Test.YtohhihdjdelckaaDoorTypes
import Derived.Test.YtohhihdjdelckaaDoorSh
set_option linter.all false
namespace Go.Proofs.YtohhihdjdelckaaDoor
open Go.Dc Go.RowKit
/-- Where a byte comes first, or -1. -/
def index1 (s t : Str) : Option Int :=
  match t.l with
  | [c] => some (Lib.indexByte s.l c)
  | _ => none
def strings_Index_m (s t : Str) : Option Int := index1 s t
def stringslite_Index_m (s t : Str) : Option Int := index1 s t
theorem index1_some {s t : Str} {y : Int} (h : index1 s t = some y) : ∃ c, t = ⟨[c]⟩ ∧ y = Lib.indexByte s.l c := by
  unfold index1 at h
  split at h
  · rename_i c e
    obtain ⟨l⟩ := t
    simp only at e
    subst e
    exact ⟨c, rfl, (Option.some.inj h).symm⟩
  · cases h
theorem ret_kept {P : Program} {f : FuncId} {args : Array Value} {w : World} {v : Value} (h : Calls P f args w fun e w' => e = .returned v ∧ w' = w) : Calls P f args w (Ret w v) :=
  h.mono fun e w' ⟨he, hw⟩ => by subst hw; exact ⟨he, Below.refl _ _⟩
theorem strings_Index_spec (S : Soup) (w : World) (s0 : Str) (substr0 : Str) (y : Int) (hM : strings_Index_m s0 substr0 = some y) (_hS : ∀ k, S k → k < w.heap.size) :
    Calls Tryd.prog 104 #[.string s0.ba, .string substr0.ba] w (Ret w (.int .i64 y)) := by
  obtain ⟨c, rfl, rfl⟩ := index1_some hM
  exact ret_kept (Tryd.strings_Index_one s0.ba c w)
theorem stringslite_Index_spec (S : Soup) (w : World) (s0 : Str) (substr0 : Str) (y : Int) (hM : stringslite_Index_m s0 substr0 = some y) (_hS : ∀ k, S k → k < w.heap.size) :
    Calls Tryd.prog 115 #[.string s0.ba, .string substr0.ba] w (Ret w (.int .i64 y)) := by
  obtain ⟨c, rfl, rfl⟩ := index1_some hM
  exact ret_kept (Tryd.stringslite_Index_one s0.ba c w)
end Go.Proofs.YtohhihdjdelckaaDoor

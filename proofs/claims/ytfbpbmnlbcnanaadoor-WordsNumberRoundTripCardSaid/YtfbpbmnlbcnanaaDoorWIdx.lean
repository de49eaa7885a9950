/- strings.Index at a substring of one byte: its contract. -/
import Derived.Test.YtfbpbmnlbcnanaaDoorTypes
import Derived.Lib.Strings
import Derived.Lib.Slices
import Derived.Lib.Walk
import Derived.Lib.Bytealg
namespace Go.Proofs
set_option maxHeartbeats 1000000 in
set_option maxRecDepth 100000 in
theorem Tryd.stringslite_IndexByte (s : ByteArray) (c : Int) (w : World) :
    Calls Tryd.prog 57 #[.string s, .int .u8 c] w fun e w' => e = .returned (.int .i64 (Lib.indexByte s.data.toList c.toNat.toUInt8)) ∧ w' = w := by
  go_enter Tryd.func57, Tryd.ntmps57
  go_wp2
  rw [run_callFunc_extern Tryd.func61 (by kernel_rfl) (by kernel_rfl) (by kernel_rfl) (e := Extern.BytealgIndexByte.indexByte) (by kernel_rfl), Lib.run_indexByteString]
  simp only [Result.andThen]
  rw [Oper.upon_value]
  go_wp2
  go_ret
  exact ⟨rfl, rfl⟩
set_option maxHeartbeats 2000000 in
set_option maxRecDepth 100000 in
theorem Tryd.stringslite_Index_one (s : ByteArray) (c : UInt8) (w : World) :
    Calls Tryd.prog 54 #[.string s, .string ⟨#[c]⟩] w fun e w' => e = .returned (.int .i64 (Lib.indexByte s.data.toList c)) ∧ w' = w := by
  go_enter Tryd.func54, Tryd.ntmps54
  go_wp2_with (go_at_call 57; refine (Tryd.stringslite_IndexByte _ _ _).mono ?_; rintro e w' ⟨rfl, rfl⟩)
  · have h : ([c] == s.toList) = true := by assumption
    go_ret
    refine ⟨?_, rfl⟩
    have e : s.data.toList = [c] := by rw [← Lib.toList_data]; exact (beq_iff_eq.1 h).symm
    rw [e]
    simp [Lib.indexByte]
  · go_ret
    exact ⟨rfl, rfl⟩
set_option maxHeartbeats 1000000 in
set_option maxRecDepth 100000 in
theorem Tryd.strings_Index_one (s : ByteArray) (c : UInt8) (w : World) :
    Calls Tryd.prog 52 #[.string s, .string ⟨#[c]⟩] w fun e w' => e = .returned (.int .i64 (Lib.indexByte s.data.toList c)) ∧ w' = w := by
  go_enter Tryd.func52, Tryd.ntmps52
  go_wp2_with (go_at_call 54; refine (Tryd.stringslite_Index_one _ _ _).mono ?_; rintro e w' ⟨rfl, rfl⟩)
  go_ret
  exact ⟨rfl, rfl⟩
end Go.Proofs
namespace Go.Proofs.YtfbpbmnlbcnanaaDoor
open Go.Dc Go.RowKit
/-- Where a byte comes first, or -1. -/
def index1 (s t : Str) : Option Int :=
  match t.l with
  | [c] => some (Lib.indexByte s.l c)
  | _ => none
def strings_Index_m (s t : Str) : Option Int := index1 s t
def stringslite_Index_m (s t : Str) : Option Int := index1 s t
theorem index1_some {s t : Str} {y : Int} (h : index1 s t = some y) : ∃ c, t = ⟨[c]⟩ ∧ y = Lib.indexByte s.l c := by
  unfold index1 at h
  split at h
  · rename_i c e
    obtain ⟨l⟩ := t
    simp only at e
    subst e
    exact ⟨c, rfl, (Option.some.inj h).symm⟩
  · cases h
theorem ret_kept {P : Program} {f : FuncId} {args : Array Value} {w : World} {v : Value} (h : Calls P f args w fun e w' => e = .returned v ∧ w' = w) : Calls P f args w (Ret w v) :=
  h.mono fun e w' ⟨he, hw⟩ => by subst hw; exact ⟨he, Below.refl _ _⟩
theorem strings_Index_spec (S : Soup) (w : World) (s0 : Str) (substr0 : Str) (y : Int) (hM : strings_Index_m s0 substr0 = some y) (_hS : ∀ k, S k → k < w.heap.size) :
    Calls Tryd.prog 52 #[.string s0.ba, .string substr0.ba] w (Ret w (.int .i64 y)) := by
  obtain ⟨c, rfl, rfl⟩ := index1_some hM
  exact ret_kept (Tryd.strings_Index_one s0.ba c w)
theorem stringslite_Index_spec (S : Soup) (w : World) (s0 : Str) (substr0 : Str) (y : Int) (hM : stringslite_Index_m s0 substr0 = some y) (_hS : ∀ k, S k → k < w.heap.size) :
    Calls Tryd.prog 54 #[.string s0.ba, .string substr0.ba] w (Ret w (.int .i64 y)) := by
  obtain ⟨c, rfl, rfl⟩ := index1_some hM
  exact ret_kept (Tryd.stringslite_Index_one s0.ba c w)
end Go.Proofs.YtfbpbmnlbcnanaaDoor

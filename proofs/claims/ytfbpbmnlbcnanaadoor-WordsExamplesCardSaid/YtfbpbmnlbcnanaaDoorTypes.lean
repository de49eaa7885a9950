/- The program's types as plain data. -/
import Derived.Test.YtfbpbmnlbcnanaaDoorChecked
import Derived.Test.YtfbpbmnlbcnanaaDoorDm
namespace Go.Proofs.YtfbpbmnlbcnanaaDoor
open Go.Dc Go.RowKit
set_option maxRecDepth 10000
set_option linter.unusedVariables false
structure Word where
  Text : Str
  Line : Int
  Col : Int
  deriving DecidableEq, Inhabited
instance : GoRep Word where
  R := Unit
  n := 3
  bytes := 32
  enc := fun r x => [.string x.Text.ba, .int .i64 x.Line, .int .i64 x.Col]
  ok := fun S w r x => True
  npos := by decide
  bpos := by decide
  len := fun _ _ => rfl
  one := fun r x v hv => by
    have h : [.string x.Text.ba, .int .i64 x.Line, .int .i64 x.Col].all Value.oneCell' = true := rfl
    exact List.all_eq_true.1 h v hv
  mono := fun _ _ _ _ _ _ h => h
  dep := fun _ _ _ _ _ _ h => h
theorem Word_eqv (x y : Word) : decide (x = y) = true ↔ ([.string x.Text.ba, .int .i64 x.Line, .int .i64 x.Col] : List Value) = [.string y.Text.ba, .int .i64 y.Line, .int .i64 y.Col] := by
  constructor
  · intro h; rw [of_decide_eq_true h]
  · intro h
    obtain ⟨a_1, a_2, a_3⟩ := x
    obtain ⟨b_1, b_2, b_3⟩ := y
    simp only [List.cons.injEq, Value.int.injEq, Value.bool.injEq, Value.string.injEq, Str.ba_iff, true_and, and_true] at h
    simp only [decide_eq_true_eq, Word.mk.injEq]
    simp_all
end Go.Proofs.YtfbpbmnlbcnanaaDoor

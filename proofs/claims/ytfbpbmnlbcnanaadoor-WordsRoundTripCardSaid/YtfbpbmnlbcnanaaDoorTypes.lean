/- The program's types as plain data. -/
import Derived.Test.YtfbpbmnlbcnanaaDoorChecked
import Derived.Test.YtfbpbmnlbcnanaaDoorDm
set_option linter.all false
namespace Go.Proofs.YtfbpbmnlbcnanaaDoor
open Go.Dc Go.RowKit
set_option maxRecDepth 10000
structure Word where
  Text : Str
  Line : Int
  Col : Int
  deriving DecidableEq, Inhabited
instance : GoRep Word where
  R := Unit
  n := 3
  bytes := 32
  enc := fun r x => [.string x.Text.ba, .int .i64 x.Line, .int .i64 x.Col]
  ok := fun S w r x => True
  npos := by decide
  bpos := by decide
  len := fun _ _ => rfl
  one := fun r x v hv => by
    have h : [.string x.Text.ba, .int .i64 x.Line, .int .i64 x.Col].all Value.oneCell' = true := rfl
    exact List.all_eq_true.1 h v hv
  mono := fun _ _ _ _ _ _ h => h
  dep := fun _ _ _ _ _ _ h => h
end Go.Proofs.YtfbpbmnlbcnanaaDoor

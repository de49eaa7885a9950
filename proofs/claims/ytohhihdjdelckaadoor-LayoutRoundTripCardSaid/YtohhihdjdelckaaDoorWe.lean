/- Models of functions, and that the code computes them. -/
import Derived.Test.YtohhihdjdelckaaDoorTypes
set_option linter.all false
namespace Go.Proofs.YtohhihdjdelckaaDoor
open Go.Dc Go.RowKit
set_option maxRecDepth 10000
def ref1_Decimal_k2 (s_1 : Str) (n_1 : Int) (cont1 : (Int × Str) → Option Str) : Int → Option Str := fun d_j2 =>
  chk (i64b (d_j2 + 1)) <|
  (strSub (⟨[48, 49, 50, 51, 52, 53, 54, 55, 56, 57]⟩ : Str) d_j2 (d_j2 + 1)).bind fun q7 =>
  (strCat q7 s_1).bind fun q9 =>
  chk (decide (10 ≠ 0) && i64b (n_1.tdiv 10)) <|
  cont1 ((n_1.tdiv 10), q9)
def ref1_Decimal_k3 : Str → Option Str := fun s_j3 =>
  some s_j3
def ref1_Decimal_k1 (n0 : Int) (s_1 : Str) : Unit → Option Str := fun _ =>
  if decide (n0 < 0) then
    ((strCat (⟨[45]⟩ : Str) s_1).bind fun q15 =>
    ref1_Decimal_k3 q15)
  else
    (ref1_Decimal_k3 s_1)
def ref1_Decimal_b1 (n0 : Int) (cont1 : (Int × Str) → Option Str) : (Int × Str) → Option Str := fun (n_1, s_1) =>
  if decide (n_1 ≠ 0) then
    (if decide ((n_1.tmod 10) < 0) then
      (chk (i64b (-(n_1.tmod 10))) <|
      ref1_Decimal_k2 s_1 n_1 cont1 (-(n_1.tmod 10)))
    else
      (ref1_Decimal_k2 s_1 n_1 cont1 (n_1.tmod 10)))
  else
    (ref1_Decimal_k1 n0 s_1 ())
def ref1_Decimal_m (n0 : Int) : Option Str :=
  if (decide (0 ≤ n0) && decide (n0 < 10)) then
    (chk (i64b (n0 + 1)) <|
    (strSub (⟨[48, 49, 50, 51, 52, 53, 54, 55, 56, 57]⟩ : Str) n0 (n0 + 1)).bind fun q3 =>
    some q3)
  else
    (iter (ref1_Decimal_b1 n0) FUEL (n0, (⟨[]⟩ : Str)))
end Go.Proofs.YtohhihdjdelckaaDoor

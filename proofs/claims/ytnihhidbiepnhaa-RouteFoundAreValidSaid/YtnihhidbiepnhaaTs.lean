/- keep.Step is there for every layout. -/
import Derived.Test.YtnihhidbiepnhaaTp
import Derived.Test.YtnihhidbiepnhaaRt
namespace Go.Proofs.Ytnihhidbiepnhaa
open Go.Dc
theorem tdiv_i64' {v k : Int} (h : -9223372036854775808 ≤ v ∧ v ≤ 9223372036854775807) (hk : 2 ≤ k) : i64b (v.tdiv k) = true := by
  rcases Int.le_total 0 v with h0 | h0
  · have a := Int.tdiv_nonneg h0 (show (0 : Int) ≤ k by omega)
    have b := Int.ediv_le_self k h0
    rw [Int.tdiv_eq_ediv_of_nonneg h0] at a ⊢
    exact i64b_of (by omega) (by omega)
  · have e : v.tdiv k = -((-v).tdiv k) := by rw [Int.neg_tdiv, Int.neg_neg]
    have a := Int.tdiv_nonneg (a := -v) (by omega) (show (0 : Int) ≤ k by omega)
    have b := Int.ediv_le_self k (show (0 : Int) ≤ -v by omega)
    rw [e]
    rw [Int.tdiv_eq_ediv_of_nonneg (by omega)] at a ⊢
    exact i64b_of (by omega) (by omega)
end Go.Proofs.Ytnihhidbiepnhaa

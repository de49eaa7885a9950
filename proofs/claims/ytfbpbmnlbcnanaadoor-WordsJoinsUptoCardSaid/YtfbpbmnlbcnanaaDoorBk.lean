/- The bulk of the rows' second form, for the engine. -/
import Derived.Test.YtfbpbmnlbcnanaaDoorRows
import Derived.Test.YtfbpbmnlbcnanaaDoorD18
set_option linter.all false
namespace Go.Proofs.YtfbpbmnlbcnanaaDoor
open Go.Dc
def ub (H : Type) (d : DataW H) : Nat := Rows.uptoBulk d
theorem ub1 (H : Type) (d : DataW H) : 1 ≤ ub H d := by
  unfold ub
  cases d with
  | lit l => cases l <;> simp [Rows.uptoBulk]
  | nil => simp [Rows.uptoBulk]
  | ptr d => simp [Rows.uptoBulk]
  | slice elems spare => simp [Rows.uptoBulk]
  | agg parts => simp [Rows.uptoBulk]
  | iface t d => simp [Rows.uptoBulk]
  | map entries => simp [Rows.uptoBulk]
  | held h => simp [Rows.uptoBulk]
theorem ubS (H : Type) (b : List UInt8) : b.length + 1 ≤ ub H (.lit (.string b)) := by simp [ub, Rows.uptoBulk]
theorem ubA (H : Type) (xs : List (DataW H)) : (xs.map (ub H)).sum ≤ Rows.uptoBulkAll xs := by
  induction xs with
  | nil => simp
  | cons x xs ih =>
    simp only [List.map_cons, List.sum_cons, Rows.uptoBulkAll]
    have : ub H x = Rows.uptoBulk x := rfl
    omega
theorem ubL (H : Type) (xs ys : List (DataW H)) : (xs.map (ub H)).sum + 1 ≤ ub H (.slice xs ys) := by
  have := ubA H xs
  have e : ub H (.slice xs ys) = Rows.uptoBulkAll xs + Rows.uptoBulkAll ys + 1 := by simp [ub, Rows.uptoBulk]
  omega
end Go.Proofs.YtfbpbmnlbcnanaaDoor

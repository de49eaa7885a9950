/- keep.Step is there for every layout. -/
import Derived.Test.YtohhihdjdelckaaDoorTp
import Derived.Test.YtohhihdjdelckaaDoorRt
set_option linter.all false
namespace Go.Proofs.YtohhihdjdelckaaDoor
open Go.Dc
theorem tdiv_i64' {v k : Int} (h : -9223372036854775808 ≤ v ∧ v ≤ 9223372036854775807) (hk : 2 ≤ k) : i64b (v.tdiv k) = true := by
  rcases Int.le_total 0 v with h0 | h0
  · have a := Int.tdiv_nonneg h0 (show (0 : Int) ≤ k by omega)
    have b := Int.ediv_le_self k h0
    rw [Int.tdiv_eq_ediv_of_nonneg h0] at a ⊢
    exact i64b_of (by omega) (by omega)
  · have e : v.tdiv k = -((-v).tdiv k) := by rw [Int.neg_tdiv, Int.neg_neg]
    have a := Int.tdiv_nonneg (a := -v) (by omega) (show (0 : Int) ≤ k by omega)
    have b := Int.ediv_le_self k (show (0 : Int) ≤ -v by omega)
    rw [e]
    rw [Int.tdiv_eq_ediv_of_nonneg (by omega)] at a ⊢
    exact i64b_of (by omega) (by omega)
theorem step_some' (l : Layout) (hl : l.Sections.length ≤ 140737488355328) (v : Int) (hv : -9223372036854775808 ≤ v ∧ v ≤ 9223372036854775807) : ∃ s, keep_Step_m l v = some s := by
  unfold keep_Step_m
  obtain ⟨k, hk, k0, k1⟩ := pick_m v 16 (by omega) (by omega)
  rw [hk, Option.bind_some]
  have d16 := tdiv_i64' hv (show (2 : Int) ≤ 16 by omega)
  have d700 := tdiv_i64' hv (show (2 : Int) ≤ 700 by omega)
  have hv16 : -9223372036854775808 ≤ v.tdiv 16 ∧ v.tdiv 16 ≤ 9223372036854775807 := by simpa [i64b] using d16
  have d97 := tdiv_i64' hv16 (show (2 : Int) ≤ 97 by omega)
  by_cases h : k = 15
  · rw [if_pos (by simpa using h), chk_true (by rw [d16]; rfl), chk_true (i64b_of (by omega) (by omega))]
    obtain ⟨a, ha, a0, a1⟩ := pick_m (v.tdiv 16) ((l.Sections.length : Int) + 4) (by omega) (by omega)
    obtain ⟨b, hb, b0, b1⟩ := pick_m (v.tdiv 700) 4 (by omega) (by omega)
    rw [ha, Option.bind_some, chk_true (i64b_of (by omega) (by omega)), chk_true (by rw [d700]; rfl), hb, Option.bind_some, chk_true (i64b_of (by omega) (by omega))]
    exact ⟨_, rfl⟩
  · rw [if_neg (by simpa using h), chk_true (by rw [d16]; rfl)]
    obtain ⟨a, ha, a0, a1⟩ := pick_m (v.tdiv 16) (if (l.Sections.length : Int) > 1 then (l.Sections.length : Int) else 1) (by split <;> omega) (by split <;> omega)
    obtain ⟨b, hb, b0, b1⟩ := pick_m ((v.tdiv 16).tdiv 97) 2 (by omega) (by omega)
    rw [ha, Option.bind_some, chk_true (by rw [d16]; rfl), chk_true (by rw [d97]; rfl), hb, Option.bind_some]
    exact ⟨_, rfl⟩
end Go.Proofs.YtohhihdjdelckaaDoor

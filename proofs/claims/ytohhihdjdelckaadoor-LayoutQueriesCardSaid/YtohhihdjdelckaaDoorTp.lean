/- Plain laws: numbers out of a source. -/
import Derived.Test.YtohhihdjdelckaaDoorQm
import Derived.Test.YtohhihdjdelckaaDoorRk
import Derived.IntWalk
set_option linter.all false
namespace Go.Proofs.YtohhihdjdelckaaDoor
open Go.Dc

theorem pick_m (v n : Int) (h0 : 1 ≤ n) (h1 : n ≤ 4611686018427387904) : ∃ k, keep_Pick_m v n = some k ∧ 0 ≤ k ∧ k < n := by
  have hw : IntKind.u64.wrap n = n := IntWalk.u64_in n ⟨by omega, by omega⟩
  have hv : 0 ≤ IntKind.u64.wrap v := by rw [IntKind.wrap_u64]; omega
  have e : (IntKind.u64.wrap v).tmod n = IntKind.u64.wrap v % n := Int.tmod_eq_emod_of_nonneg hv
  have a := Int.emod_nonneg (IntKind.u64.wrap v) (b := n) (by omega)
  have b := Int.emod_lt_of_pos (IntKind.u64.wrap v) (b := n) (by omega)
  refine ⟨IntKind.u64.wrap v % n, ?_, a, b⟩
  unfold keep_Pick_m
  rw [hw, e, chk_true (by simp; omega)]
  congr 1
  rw [IntKind.wrap_i64]
  omega

def SrcOk (l : List Int) (i : Int) : Prop := 0 ≤ i ∧ i ≤ l.length ∧ l.length ≤ 140737488355328

theorem next_m {l : List Int} {i : Int} (h : SrcOk l i) (n : Int) (h0 : 1 ≤ n) (h1 : n ≤ 4611686018427387904) :
    ∃ v j, keep_Source_Next_m (Keep_Source.mk l i) n = some (v, j) ∧ 0 ≤ v ∧ v < n ∧ SrcOk l j := by
  obtain ⟨a, b, c⟩ := h
  unfold keep_Source_Next_m
  by_cases hl : (l.length : Int) ≤ i
  · exact ⟨0, i, by simp [hl], by omega, by omega, a, b, c⟩
  · have e : i + 1 - 1 = i := by omega
    obtain ⟨k, hk, k0, k1⟩ := pick_m (l.getD i.toNat 0) n h0 h1
    refine ⟨k, i + 1, ?_, k0, k1, by omega, by omega, c⟩
    simp only [hl, decide_false, Bool.false_eq_true, if_false, e]
    rw [chk_true (i64b_of (by omega) (by omega)), chk_true (i64b_of (by omega) (by omega)), idx_lt a (by omega)]
    simp only [Option.bind_some]
    rw [hk]
    rfl

end Go.Proofs.YtohhihdjdelckaaDoor

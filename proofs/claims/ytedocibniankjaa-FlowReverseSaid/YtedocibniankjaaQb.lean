/- Plain laws of chapter 27: networks of which all members have been changed. -/
import Derived.Test.YtedocibniankjaaQa
namespace Go.Proofs.Ytedocibniankjaa
open Go.Dc

theorem gi_map (f : Int → Int) (l : List Int) {i : Int} (i0 : 0 ≤ i) (i1 : i < l.length) : gi (l.map f) i = f (gi l i) := by
  have h : i.toNat < l.length := by omega
  unfold gi; simp [h]
theorem ar_map (f : Arc → Arc) (l : List Arc) {i : Int} (i0 : 0 ≤ i) (i1 : i < l.length) : ar (l.map f) i = f (ar l i) := by
  have h : i.toNat < l.length := by omega
  unfold ar; simp [h]
theorem sum_map_mul (k : Int) : ∀ l : List Int, (l.map (fun x => x * k)).sum = l.sum * k
  | [] => by simp
  | x :: l => by simp [sum_map_mul k l, Int.add_mul]
theorem sum_map_neg : ∀ l : List Int, (l.map (fun x => -x)).sum = -l.sum
  | [] => by simp
  | x :: l => by simp [sum_map_neg l]; omega
/-- No feasible flow: the least cost is the same as another's. -/
theorem solve_none {g : Graph} (V : Valid g) (h : ∀ Y, ¬ Feas g Y) : flow_Solve_m g = some (Flow.mk [] [] 0, 14) ∧ ∃ S, 0 < cutv g S := by
  obtain ⟨⟨f, e⟩, hs, hy⟩ := solve_total g V
  rcases hy with ⟨_, o⟩ | ⟨he, hS⟩
  · exact absurd o.feas (h _)
  · rw [hs, he]; exact ⟨rfl, hS⟩
end Go.Proofs.Ytedocibniankjaa

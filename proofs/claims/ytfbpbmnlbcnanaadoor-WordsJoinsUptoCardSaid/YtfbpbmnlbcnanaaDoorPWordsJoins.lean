/- WordsJoins, the plain law. -/
import Derived.Test.YtfbpbmnlbcnanaaDoorVe
import Derived.Test.YtfbpbmnlbcnanaaDoorWWordsJoins
set_option linter.all false
namespace Go.Proofs.YtfbpbmnlbcnanaaDoor
open Go.Dc
theorem szL_append (a : List (List Str)) (w : List Str) : szL (a ++ [w]) = szL a + (szW w + 1) := by simp [szL]
theorem joins_loop (p : List UInt8) (l : List (List Str)) (hl : szL l ≤ 100000000000) : iter (law3_WordsJoins_b1 p l) FUEL ([], 0) = some true := by
  have key : ∀ (n i : Nat) (m : List (List Str)), 20 - i < n → i ≤ 20 → m.length ≤ i → szL m ≤ i * 2000 → iter (law3_WordsJoins_b1 p l) n (m, i) = some true := by
    intro n
    induction n with
    | zero => intro i m h; omega
    | succ n ih =>
      intro i m hn hi hm hz
      show law3_WordsJoins_b1 p l (iter _ n) (m, i) = _
      simp only [law3_WordsJoins_b1]
      by_cases hc : i < p.length ∧ i < 20
      · rw [if_pos (by simp; omega), chk_true (i64b_of (by omega) (by omega))]
        have hs : ∃ z, sub p (i : Int) (if (p.length : Int) < ((i : Int) + 1) then (p.length : Int) else ((i : Int) + 1)) = some z := by
          unfold sub
          exact ⟨_, if_pos ⟨by omega, by split <;> omega, by split <;> omega⟩⟩
        obtain ⟨z, hz1⟩ := hs
        obtain ⟨q, hq, hql⟩ := pieces_m z
        obtain ⟨ql⟩ := q
        simp only at hql
        rw [hz1, Option.bind_some, hq, Option.bind_some, cat_m _ _ (by simp only [List.length_singleton]; omega), Option.bind_some, chk_true (by simp; omega), chk_true (i64b_of (by omega) (by omega))]
        refine ih (i + 1) _ (by omega) (by omega) (by simp; omega) ?_
        rw [szL_append]
        simp [szW]
        omega
      · rw [if_neg (by simp; omega)]
        unfold law3_WordsJoins_k1
        have h2 : i * 2000 ≤ 20 * 2000 := Nat.mul_le_mul_right _ hi
        rw [awake3, Option.bind_some, whn_t rfl, join_m l hl, Option.bind_some, whn_t rfl, rjoin_m l hl, Option.bind_some, whn_t (by simp), join_m m (by omega), Option.bind_some, whn_t (by simp), rjoin_m m (by omega), Option.bind_some]
        simp
  exact key FUEL 0 [] (fuel_of (by omega)) (by omega) (by simp) (by simp [szL])
theorem wordsJoins_plain (l : List (List Str)) (p : List UInt8) (hl : szL l ≤ 1048576) : law3_WordsJoins_m l p = some true := joins_loop p l (by omega)
end Go.Proofs.YtfbpbmnlbcnanaaDoor

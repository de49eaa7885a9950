/- RouteLimits, the plain law. -/
import Derived.Test.YtnihhidbiepnhaaT1
import Derived.Test.YtnihhidbiepnhaaTp
import Derived.Test.YtnihhidbiepnhaaRg
import Derived.Test.YtnihhidbiepnhaaOpens
import Derived.Test.YtnihhidbiepnhaaWRouteLimits
namespace Go.Proofs.Ytnihhidbiepnhaa
open Go.Dc
set_option maxRecDepth 100000

theorem example_ok : ∃ l, law7_example_m = some l ∧ checkL (layOf l) = 0 := by
  have h : (match law7_example_m with | some l => decide (checkL (layOf l) = 0) | none => false) = true := by decide +kernel
  cases e : law7_example_m with
  | none => rw [e] at h; cases h
  | some l => rw [e] at h; exact ⟨l, rfl, of_decide_eq_true h⟩

theorem routeLimits_plain (n overlap : Int) (s : Step) (_ : -9223372036854775808 ≤ n ∧ n ≤ 9223372036854775807) (_ : -9223372036854775808 ≤ overlap ∧ overlap ≤ 9223372036854775807) (_ : Wf.wf s) : law7_RouteLimits_m n overlap s = some true := by
  have k : WP (law7_RouteLimits_m n overlap s) (fun b => b = true) := by
    unfold law7_RouteLimits_m
    obtain ⟨m, hm, m0, m1⟩ := pick_m n 27 (by omega) (by omega)
    rw [hm]
    simp only [Option.bind_some]
    refine wp_iter (fun (q : List Step × Nat) => q.1 = List.replicate q.2 s ∧ (q.2 : Int) ≤ m) (fun q => 27 - q.2) _ ?_ FUEL _ ⟨rfl, by simp only; omega⟩ (fuel_of (by simp only; omega))
    rintro c ⟨q, i⟩ ⟨hq, hi⟩ hc
    simp only at hq hi hc
    subst hq
    simp only [law7_RouteLimits_b1]
    refine wp_ite (fun h => ?_) (fun h => ?_)
    · simp only [decide_eq_true_eq] at h
      refine wp_chk (by simp; omega) (wp_i64 (by omega) (hc _ ⟨?_, by simp only; omega⟩ (by simp only; omega)))
      simp only
      rw [List.replicate_succ']
    · simp only [decide_eq_false_iff_not] at h
      have him : (i : Int) = m := by omega
      obtain ⟨l, hl, hl0⟩ := example_ok
      unfold law7_RouteLimits_k1
      rw [hl]
      simp only [Option.bind_some]
      rw [rcheck_m, awake7]
      simp only [Option.bind_some]
      refine wp_some ?_
      simp only [Bool.true_and]
      have key : ((pointsF l (Route.mk (List.replicate i s) overlap)).2 = 7 ∧ (24 < m ∨ 2 < overlap)) ∨ (((pointsF l (Route.mk (List.replicate i s) overlap)).2 = 4 ∨ (pointsF l (Route.mk (List.replicate i s) overlap)).2 = 5) ∧ ¬ (24 < m ∨ 2 < overlap)) := by
        unfold pointsF
        rw [if_neg (by simp [hl0])]
        simp only [List.length_replicate]
        by_cases h1 : 24 < i ∨ 2 < overlap
        · rw [if_pos h1]
          exact .inl ⟨rfl, by omega⟩
        · rw [if_neg h1]
          refine .inr ⟨?_, by omega⟩
          by_cases h2 : overlap < 0 ∨ (i : Int) - overlap < 2
          · rw [if_pos h2]; exact .inl rfl
          · rw [if_neg h2]
            by_cases h3 : (List.replicate i s).all (isS l) = false
            · rw [if_pos h3]; exact .inl rfl
            · rw [if_neg h3]
              have hd : dupAt [] (List.replicate i s) = true := by
                obtain ⟨j, rfl⟩ : ∃ j, i = j + 2 := ⟨i - 2, by omega⟩
                simp [List.replicate_succ, dupAt]
              rw [if_pos hd]; exact .inr rfl
      rcases key with ⟨e, h1⟩ | ⟨e | e, h1⟩
      · rw [e]
        have : (decide (24 < m) || decide (2 < overlap)) = true := by simpa using h1
        simp [this]
      · rw [e]
        have : (decide (24 < m) || decide (2 < overlap)) = false := by simp; omega
        simp [this]
      · rw [e]
        have : (decide (24 < m) || decide (2 < overlap)) = false := by simp; omega
        simp [this]
  obtain ⟨b, h1, rfl⟩ := k
  exact h1
end Go.Proofs.Ytnihhidbiepnhaa

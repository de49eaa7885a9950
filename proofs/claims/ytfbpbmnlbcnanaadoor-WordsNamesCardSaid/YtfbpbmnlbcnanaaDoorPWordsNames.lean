/- WordsNames, the plain law. -/
import Derived.Test.YtfbpbmnlbcnanaaDoorVc
import Derived.Test.YtfbpbmnlbcnanaaDoorWWordsNames
namespace Go.Proofs.YtfbpbmnlbcnanaaDoor
open Go.Dc
theorem wordsNames_plain (s : Str) (l : List UInt8) (_ : Wf.wf s) (_ : Wf.wf l) : law3_WordsNames_m s l = some true := by
  unfold law3_WordsNames_m
  obtain ⟨q, hq, hql⟩ := pieces_m l
  rw [hq, Option.bind_some]
  have h1 : ∃ z, strSub q 0 (if 14 < (q.l.length : Int) then 14 else (q.l.length : Int)) = some z ∧ z.l.length ≤ 14 := by
    unfold strSub
    refine ⟨_, if_pos ⟨by omega, by split <;> omega, by split <;> omega⟩, ?_⟩
    simp only [List.length_drop, List.length_take]
    split <;> omega
  obtain ⟨z, hz, hzl⟩ := h1
  have hc : strCat ⟨[97]⟩ z = some ⟨[97] ++ z.l⟩ := by
    unfold strCat
    rw [if_pos (by simp only [List.length_singleton]; omega)]
  rw [hz, Option.bind_some, awake3, Option.bind_some]
  simp only [name_m, rname_m, hc, whn_t, Option.bind_some, beq_self_eq_true, Bool.and_true]
end Go.Proofs.YtfbpbmnlbcnanaaDoor

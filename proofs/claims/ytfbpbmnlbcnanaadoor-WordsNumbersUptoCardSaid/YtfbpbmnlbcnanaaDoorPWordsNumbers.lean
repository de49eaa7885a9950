/- WordsNumbers, the plain law. -/
import Derived.Test.YtfbpbmnlbcnanaaDoorVd
import Derived.Test.YtfbpbmnlbcnanaaDoorWWordsNumbers
namespace Go.Proofs.YtfbpbmnlbcnanaaDoor
open Go.Dc
theorem numbers_loop (s a b : Str) (hs : s.l.length ≤ 1000000000) (ha : a.l.length ≤ 1000000000) (hb : b.l.length ≤ 1000000000) : iter (law3_WordsNumbers_b1 s a b) FUEL 0 = some true := by
  have := iter_list (B := law3_WordsNumbers_b1 s a b) (fun (_ : Unit) i => i) [s, a, b] (fun _ _ => True) (fun _ _ => some true) ?_ ?_ FUEL () 0 trivial (by omega) (fuel_of (by simp))
  · simpa using this
  · intro c _ i x r _ hdr hi hx hk
    have hxl : x.l.length ≤ 1000000000 := by
      have := List.mem_of_getElem? (idx_get hx)
      simp only [List.mem_cons, List.not_mem_nil, or_false] at this
      rcases this with h | h | h <;> (subst h; assumption)
    simp only [law3_WordsNumbers_b1]
    rw [if_pos (by simp only [decide_eq_true_eq]; omega)]
    simp only [hx, Option.bind_some, num_m _ (show x.l.length ≤ 1000000000000 by omega), rnum_m, range_m _ hxl, rrange_m _ hxl]
    rw [if_neg (by simp)]
    exact hk () trivial
  · intro c _ _
    simp only [law3_WordsNumbers_b1]
    rw [if_neg (by simp)]
    unfold law3_WordsNumbers_k1
    rw [awake3]; rfl
theorem wordsNumbers_plain (s : Str) (l : List UInt8) (hs : s.l.length ≤ 1048576) : law3_WordsNumbers_m s l = some true := by
  unfold law3_WordsNumbers_m
  obtain ⟨q, hq, hql⟩ := pieces_m l
  have h1 : ∀ m : Int, 0 ≤ m → ∃ z, strSub q 0 (if m < (q.l.length : Int) then m else (q.l.length : Int)) = some z ∧ z.l.length ≤ 1100 := fun m hm => by
    unfold strSub
    refine ⟨_, if_pos ⟨by omega, by split <;> omega, by split <;> omega⟩, ?_⟩
    simp only [List.length_drop, List.length_take]
    split <;> omega
  obtain ⟨a, ha, hal⟩ := h1 12 (by omega)
  obtain ⟨b, hb, hbl⟩ := h1 3 (by omega)
  rw [hq, Option.bind_some, ha, Option.bind_some, hb, Option.bind_some]
  exact numbers_loop s a b (by omega) (by omega) (by omega)
end Go.Proofs.YtfbpbmnlbcnanaaDoor

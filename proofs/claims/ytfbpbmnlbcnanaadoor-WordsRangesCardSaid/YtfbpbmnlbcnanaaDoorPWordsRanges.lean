/- WordsRanges, the plain law. -/
import Derived.Test.YtfbpbmnlbcnanaaDoorVd
import Derived.Test.YtfbpbmnlbcnanaaDoorVe
import Derived.Test.YtfbpbmnlbcnanaaDoorWWordsRanges
namespace Go.Proofs.YtfbpbmnlbcnanaaDoor
open Go.Dc
set_option maxRecDepth 10000
theorem pick_big (v : Int) : ∃ k : Nat, keep_Pick_m v 4001 = some (k : Int) ∧ k < 4001 := by
  unfold keep_Pick_m
  have e : IntKind.u64.wrap 4001 = 4001 := by decide +kernel
  rw [e, chk_true (by decide)]
  have h0 : 0 ≤ IntKind.u64.wrap v := by
    unfold IntKind.wrap
    simp [IntKind.signed, IntKind.bits]
    omega
  generalize IntKind.u64.wrap v = u at h0
  have h1 : 0 ≤ u.tmod 4001 := Int.tmod_nonneg _ h0
  have h2 : u.tmod 4001 < 4001 := Int.tmod_lt_of_pos _ (by omega)
  refine ⟨(u.tmod 4001).toNat, ?_, by omega⟩
  have e2 : IntKind.i64.wrap (u.tmod 4001) = u.tmod 4001 := by
    generalize u.tmod 4001 = x at h1 h2
    unfold IntKind.wrap
    simp [IntKind.signed, IntKind.bits]
    omega
  rw [e2, Int.toNat_of_nonneg h1]
def decB (k : Nat) : Bool := match ref1_Decimal_m ((k : Int) - 2000) with
  | some y => !y.l.contains 46 && decide (y.l.length ≤ 5) && (numS y.l == ((k : Int) - 2000, true))
  | none => false
theorem dec_all : (List.range 4001).all decB = true := by decide +kernel
theorem dec_small (k : Nat) (h : k < 4001) : ∃ y, ref1_Decimal_m ((k : Int) - 2000) = some y ∧ 46 ∉ y.l ∧ y.l.length ≤ 5 ∧ numS y.l = ((k : Int) - 2000, true) := by
  have := List.all_eq_true.1 dec_all k (List.mem_range.2 h)
  unfold decB at this
  split at this
  · rename_i y hy
    refine ⟨y, hy, ?_⟩
    simp only [Bool.and_eq_true, Bool.not_eq_true', decide_eq_true_eq, beq_iff_eq] at this
    refine ⟨?_, this.1.2, this.2⟩
    have := this.1.1
    simpa using this
  · cases this
theorem index_dd (a b : List UInt8) (h : 46 ∉ a) : Lib.index (a ++ 46 :: 46 :: b) [46, 46] = (a.length : Int) := by
  refine Lib.index_first (by simp) ((occ_dd _ _).2 ⟨by simp, by simp⟩) (fun j hj => ?_)
  cases ho : Lib.occAt (a ++ 46 :: 46 :: b) [46, 46] j with
  | false => rfl
  | true =>
    have := ((occ_dd _ _).1 ho).1
    rw [List.getElem?_append_left hj] at this
    exact absurd (List.mem_of_getElem? this) h
theorem wordsRanges_plain (a b : Int) (_ : -9223372036854775808 ≤ a ∧ a ≤ 9223372036854775807) (_ : -9223372036854775808 ≤ b ∧ b ≤ 9223372036854775807) : law3_WordsRanges_m a b = some true := by
  unfold law3_WordsRanges_m
  obtain ⟨p, hp, hp4⟩ := pick_big a
  obtain ⟨q, hq, hq4⟩ := pick_big b
  obtain ⟨⟨y⟩, hy, hy1, hy2, hy3⟩ := dec_small p hp4
  obtain ⟨⟨z⟩, hz, hz1, hz2, hz3⟩ := dec_small q hq4
  simp only at hy1 hy2 hy3 hz1 hz2 hz3
  rw [hp, Option.bind_some, chk_true (i64b_of (by omega) (by omega)), hq, Option.bind_some, chk_true (i64b_of (by omega) (by omega)), hy, Option.bind_some, cat_m _ _ (by simp only [List.length_cons, List.length_nil]; omega), Option.bind_some,
    hz, Option.bind_some, cat_m _ _ (by simp only [List.length_append, List.length_cons, List.length_nil]; omega), Option.bind_some, range_m _ (by simp only [List.length_append, List.length_cons, List.length_nil]; omega), Option.bind_some]
  have hr : rangeS (y ++ [46, 46] ++ z) = rangeV ((p : Int) - 2000, true) ((q : Int) - 2000, true) := by
    have e : y ++ [46, 46] ++ z = y ++ 46 :: 46 :: z := by simp
    unfold rangeS
    rw [e, index_dd y z hy1, if_pos (by omega)]
    have e1 : (y ++ 46 :: 46 :: z).take ((y.length : Int)).toNat = y := by simp
    have e2 : (y ++ 46 :: 46 :: z).drop (((y.length : Int)).toNat + 2) = z := by
      have : ((y.length : Int)).toNat = y.length := by simp
      rw [this]
      simp [← List.drop_drop]
    rw [e1, e2, hy3, hz3]
  simp only [hr]
  rw [awake3]
  unfold rangeV
  by_cases h : (q : Int) - 2000 < (p : Int) - 2000
  · rw [if_pos (decide_eq_true h), if_neg (by rintro ⟨_, _, h3⟩; simp only at h3; omega)]
    rfl
  · rw [if_neg (by simpa using h), if_pos ⟨rfl, rfl, by simp only; omega⟩]
    simp
end Go.Proofs.YtfbpbmnlbcnanaaDoor

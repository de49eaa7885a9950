/- Numerals: the reference's Decimal and Itoa write the same word. -/
import Derived.Test.YtohhihdjdelckaaDoorVm
import Derived.Test.YtohhihdjdelckaaDoorVf
import Derived.Lib.ItoaMem
set_option linter.all false
namespace Go.Proofs.YtohhihdjdelckaaDoor
open Go.Dc

theorem decN_digits : ∀ (k m : Nat) (s : List UInt8), m < k → 0 < m → decN m s = Lib.decDigits m ++ s
  | 0, _, _, h, _ => by omega
  | k + 1, m, s, h, h0 => by
    rw [decN_pos h0]
    by_cases h1 : m < 10
    · have e : m / 10 = 0 := by omega
      rw [e, decN_zero, Lib.decDigits_one h1, Nat.mod_eq_of_lt h1]
      rfl
    · rw [decN_digits k (m / 10) _ (by omega) (by omega)]
      conv => rhs; rw [Lib.decDigits, dif_neg h1]
      simp
theorem dec_m (v : Int) (h1 : -9223372036854775808 ≤ v) (h2 : v ≤ 9223372036854775807) : ref1_Decimal_m v = some ⟨Lib.itoa v⟩ := by
  by_cases hs : 0 ≤ v ∧ v < 10
  · have key : ∀ k : Fin 10, ref1_Decimal_m (k.val : Int) = some ⟨[UInt8.ofNat (48 + k.val)]⟩ := by decide +kernel
    have := key ⟨v.toNat, by omega⟩
    simp only at this
    rw [Int.toNat_of_nonneg hs.1] at this
    rw [this]
    have e : v = ((v.toNat : Nat) : Int) := (Int.toNat_of_nonneg hs.1).symm
    conv => rhs; rw [e]
    rw [Lib.itoa_nonneg, Lib.decDigits_one (by omega)]
  · have h0 : 0 < v.natAbs := by omega
    have hp : v.natAbs * 10 ^ ([] : List UInt8).length ≤ 9223372036854775808 := by simp; omega
    have hloop := dec_loop v (decide (v < 0)) FUEL v.natAbs [] (by have : FUEL = 18446744073709551616 := rfl
                                                                   omega) hp (by simp)
    have ev : (if decide (v < 0) = true then -(v.natAbs : Int) else (v.natAbs : Int)) = v := by
      by_cases hv : v < 0
      · rw [if_pos (by simpa using hv)]; omega
      · rw [if_neg (by simpa using hv)]; omega
    have hlen := decN_len 20 v.natAbs [] (by have : (10 : Nat) ^ 20 = 100000000000000000000 := by decide
                                             omega)
    simp only [List.length_nil, Nat.zero_add] at hlen
    rw [ev] at hloop
    have hd := decN_digits (v.natAbs + 1) v.natAbs [] (by omega) h0
    rw [List.append_nil] at hd
    rw [hd] at hloop hlen
    unfold ref1_Decimal_m
    rw [if_neg (by simp; omega), hloop]
    unfold ref1_Decimal_k1 ref1_Decimal_k3
    by_cases hv : v < 0
    · have c1 : strCat ⟨[45]⟩ ⟨Lib.decDigits v.natAbs⟩ = some ⟨45 :: Lib.decDigits v.natAbs⟩ := by
        unfold strCat
        rw [if_pos (by simp only [List.length_singleton]; omega)]
        rfl
      rw [if_pos (by simpa using hv), c1, Option.bind_some]
      have : Lib.itoa v = 45 :: Lib.decDigits v.natAbs := by unfold Lib.itoa; rw [if_pos hv]
      rw [this]
    · rw [if_neg (by simpa using hv)]
      have : Lib.itoa v = Lib.decDigits v.natAbs := by
        unfold Lib.itoa
        rw [if_neg hv]
        congr 1
        omega
      rw [this]
theorem digits_word : ∀ (k m : Nat), m < k → (Lib.decDigits m).all plainB = true ∧ Lib.decDigits m ≠ []
  | 0, _, h => by omega
  | k + 1, m, h => by
    have hd : ∀ d : Nat, d < 10 → plainB (UInt8.ofNat (48 + d)) = true := fun d hd => by
      have key : ∀ q : Fin 10, plainB (UInt8.ofNat (48 + q.val)) = true := by decide
      exact key ⟨d, hd⟩
    by_cases h1 : m < 10
    · rw [Lib.decDigits_one h1]
      exact ⟨by simp only [List.all_cons, List.all_nil, Bool.and_true]; exact hd m h1, by simp⟩
    · rw [Lib.decDigits, dif_neg h1]
      obtain ⟨a, b⟩ := digits_word k (m / 10) (by omega)
      refine ⟨?_, by simp⟩
      rw [List.all_append, a]
      simp only [List.all_cons, List.all_nil, Bool.and_true, Bool.true_and]
      exact hd (m % 10) (by omega)
theorem itoa_word (v : Int) : wordB ⟨Lib.itoa v⟩ = true := by
  unfold wordB Lib.itoa
  split
  · obtain ⟨a, b⟩ := digits_word (v.natAbs + 1) v.natAbs (by omega)
    simp only [Bool.and_eq_true, decide_eq_true_eq, List.all_cons]
    exact ⟨by simp, by decide, a⟩
  · obtain ⟨a, b⟩ := digits_word (v.toNat + 1) v.toNat (by omega)
    simp only [Bool.and_eq_true, decide_eq_true_eq]
    exact ⟨b, a⟩
theorem itoa_len (v : Int) (h1 : -9223372036854775808 ≤ v) (h2 : v ≤ 9223372036854775807) : (Lib.itoa v).length ≤ 21 := by
  have hd : ∀ m : Nat, 0 < m → m ≤ 9223372036854775808 → (Lib.decDigits m).length ≤ 20 := fun m hm hb => by
    have := decN_len 20 m [] (by have : (10 : Nat) ^ 20 = 100000000000000000000 := by decide
                                 omega)
    rw [decN_digits (m + 1) m [] (by omega) hm] at this
    simpa using this
  unfold Lib.itoa
  split
  · have := hd v.natAbs (by omega) (by omega)
    simp only [List.length_cons]; omega
  · by_cases h0 : v = 0
    · subst h0
      simp [Lib.decDigits_one]
    · have := hd v.toNat (by omega) (by omega)
      omega
end Go.Proofs.YtohhihdjdelckaaDoor

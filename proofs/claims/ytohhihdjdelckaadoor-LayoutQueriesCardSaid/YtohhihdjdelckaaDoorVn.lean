/- Plain laws of words: numerals. -/
import Derived.Test.YtohhihdjdelckaaDoorVl
import Derived.Test.YtohhihdjdelckaaDoorWb
import Derived.Test.YtohhihdjdelckaaDoorWe
set_option linter.all false
namespace Go.Proofs.YtohhihdjdelckaaDoor
open Go.Dc

/-- The digits of m ahead of s. -/
def decN (m : Nat) (s : List UInt8) : List UInt8 := if m = 0 then s else decN (m / 10) (UInt8.ofNat (48 + m % 10) :: s)
termination_by m
decreasing_by omega
theorem decN_zero (s : List UInt8) : decN 0 s = s := by unfold decN; rfl
theorem decN_pos {m : Nat} (h : 0 < m) (s : List UInt8) : decN m s = decN (m / 10) (UInt8.ofNat (48 + m % 10) :: s) := by
  conv => lhs; unfold decN
  rw [if_neg (by omega)]
theorem decN_len : ∀ (k m : Nat) (s : List UInt8), m < 10 ^ k → (decN m s).length ≤ s.length + k
  | 0, m, s, h => by
    have : m = 0 := by simpa using h
    subst this
    rw [decN_zero]; omega
  | k + 1, m, s, h => by
    by_cases h0 : m = 0
    · subst h0; rw [decN_zero]; omega
    · rw [decN_pos (by omega)]
      have := decN_len k (m / 10) (UInt8.ofNat (48 + m % 10) :: s) (by rw [Nat.pow_succ] at h; omega)
      simp only [List.length_cons] at this
      omega
/-! ### The reference's Decimal -/
theorem digit_sub (d : Nat) (h : d < 10) : strSub (⟨[48, 49, 50, 51, 52, 53, 54, 55, 56, 57]⟩ : Str) (d : Int) ((d : Int) + 1) = some ⟨[UInt8.ofNat (48 + d)]⟩ := by
  have key : ∀ k : Fin 10, strSub (⟨[48, 49, 50, 51, 52, 53, 54, 55, 56, 57]⟩ : Str) (k.val : Int) ((k.val : Int) + 1) = some ⟨[UInt8.ofNat (48 + k.val)]⟩ := by decide +kernel
  exact key ⟨d, h⟩
theorem dec_k2 (s : List UInt8) (z : Int) (d : Nat) (hd : d < 10) (hs : s.length ≤ 100) (hz : -9223372036854775808 ≤ z.tdiv 10 ∧ z.tdiv 10 ≤ 9223372036854775807) (c : (Int × Str) → Option Str) :
    ref1_Decimal_k2 ⟨s⟩ z c (d : Int) = c (z.tdiv 10, ⟨UInt8.ofNat (48 + d) :: s⟩) := by
  unfold ref1_Decimal_k2
  have c1 : strCat ⟨[UInt8.ofNat (48 + d)]⟩ ⟨s⟩ = some ⟨UInt8.ofNat (48 + d) :: s⟩ := by
    unfold strCat
    rw [if_pos (by simp only [List.length_singleton]; omega)]
    rfl
  rw [chk_true (i64b_of (by omega) (by omega)), digit_sub d hd, Option.bind_some, c1, Option.bind_some, chk_true (by rw [i64b_of hz.1 hz.2]; rfl)]
theorem dec_loop (n0 : Int) (neg : Bool) : ∀ (n m : Nat) (s : List UInt8), m < n → m * 10 ^ s.length ≤ 9223372036854775808 → s.length ≤ 19 →
    iter (ref1_Decimal_b1 n0) n (if neg then -(m : Int) else (m : Int), ⟨s⟩) = ref1_Decimal_k1 n0 ⟨decN m s⟩ () := by
  intro n
  induction n with
  | zero => intro m s h; omega
  | succ n ih =>
    intro m s hm hp hs
    show ref1_Decimal_b1 n0 (iter (ref1_Decimal_b1 n0) n) (if neg then -(m : Int) else (m : Int), ⟨s⟩) = _
    simp only [ref1_Decimal_b1]
    by_cases h0 : m = 0
    · subst h0
      rw [if_neg (by cases neg <;> simp), decN_zero]
    · rw [if_pos (by cases neg <;> simp <;> omega), decN_pos (by omega)]
      have hs18 : s.length ≤ 18 := by
        refine Nat.le_of_lt_succ (Nat.lt_of_not_le fun h19 => ?_)
        have h1 : (10 : Nat) ^ 19 ≤ 10 ^ s.length := Nat.pow_le_pow_right (by omega) h19
        have h2 : 1 * 10 ^ s.length ≤ m * 10 ^ s.length := Nat.mul_le_mul_right _ (by omega)
        have h3 : (10 : Nat) ^ 19 = 10000000000000000000 := by decide
        omega
      have hm63 : m ≤ 9223372036854775808 := by
        have h1 : m * 1 ≤ m * 10 ^ s.length := Nat.mul_le_mul_left _ (Nat.pos_of_ne_zero (by simp))
        omega
      have hp' : m / 10 * 10 ^ (s.length + 1) ≤ 9223372036854775808 := by
        have h1 : m / 10 * 10 ^ (s.length + 1) = m / 10 * 10 * 10 ^ s.length := by rw [Nat.pow_succ, Nat.mul_comm (10 ^ s.length) 10, Nat.mul_assoc]
        have h2 : m / 10 * 10 * 10 ^ s.length ≤ m * 10 ^ s.length := Nat.mul_le_mul_right _ (by omega)
        omega
      have hd : m % 10 < 10 := by omega
      have goal := ih (m / 10) (UInt8.ofNat (48 + m % 10) :: s) (by omega) (by simpa using hp') (by simp only [List.length_cons]; omega)
      cases neg with
      | true =>
        simp only [if_true] at goal ⊢
        have e1 : (-(m : Int)).tmod 10 = -((m % 10 : Nat) : Int) := by rw [Int.neg_tmod, Int.tmod_eq_emod_of_nonneg (by omega)]; omega
        have e2 : (-(m : Int)).tdiv 10 = -((m / 10 : Nat) : Int) := by rw [Int.neg_tdiv, Int.tdiv_eq_ediv_of_nonneg (by omega)]; omega
        rw [e1]
        by_cases hr : m % 10 = 0
        · rw [if_neg (by rw [hr]; simp)]
          have e3 : (-((m % 10 : Nat) : Int)) = ((m % 10 : Nat) : Int) := by rw [hr]; rfl
          rw [e3, dec_k2 s _ (m % 10) hd (by omega) (by rw [e2]; omega), e2, goal]
        · rw [if_pos (by simp; omega), Int.neg_neg, chk_true (i64b_of (by omega) (by omega)), dec_k2 s _ (m % 10) hd (by omega) (by rw [e2]; omega), e2, goal]
      | false =>
        simp only [Bool.false_eq_true, if_false] at goal ⊢
        have e1 : ((m : Int)).tmod 10 = ((m % 10 : Nat) : Int) := by rw [Int.tmod_eq_emod_of_nonneg (by omega)]; omega
        have e2 : ((m : Int)).tdiv 10 = ((m / 10 : Nat) : Int) := by rw [Int.tdiv_eq_ediv_of_nonneg (by omega)]; omega
        rw [e1, if_neg (by simp; omega), dec_k2 s _ (m % 10) hd (by omega) (by rw [e2]; omega), e2, goal]

/-! ### Number -/
end Go.Proofs.YtohhihdjdelckaaDoor

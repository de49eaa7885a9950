/- Plain laws of words: numerals. -/
import Derived.Test.YtohhihdjdelckaaDoorVl
import Derived.Test.YtohhihdjdelckaaDoorWb
import Derived.Test.YtohhihdjdelckaaDoorWe
set_option linter.all false
namespace Go.Proofs.YtohhihdjdelckaaDoor
open Go.Dc

/-- The digits of m ahead of s. -/
def decN (m : Nat) (s : List UInt8) : List UInt8 := if m = 0 then s else decN (m / 10) (UInt8.ofNat (48 + m % 10) :: s)
termination_by m
decreasing_by omega
theorem decN_zero (s : List UInt8) : decN 0 s = s := by unfold decN; rfl
theorem decN_pos {m : Nat} (h : 0 < m) (s : List UInt8) : decN m s = decN (m / 10) (UInt8.ofNat (48 + m % 10) :: s) := by
  conv => lhs; unfold decN
  rw [if_neg (by omega)]
theorem dig_nat (m : Nat) : (UInt8.ofNat (48 + m % 10)).toNat = 48 + m % 10 := by
  rw [UInt8.toNat_ofNat']
  omega
theorem decN_len : ∀ (k m : Nat) (s : List UInt8), m < 10 ^ k → (decN m s).length ≤ s.length + k
  | 0, m, s, h => by
    have : m = 0 := by simpa using h
    subst this
    rw [decN_zero]; omega
  | k + 1, m, s, h => by
    by_cases h0 : m = 0
    · subst h0; rw [decN_zero]; omega
    · rw [decN_pos (by omega)]
      have := decN_len k (m / 10) (UInt8.ofNat (48 + m % 10) :: s) (by rw [Nat.pow_succ] at h; omega)
      simp only [List.length_cons] at this
      omega
theorem decN_dig : ∀ (k m : Nat) (s : List UInt8), m < k → (∀ c ∈ s, digB c = true) → ∀ c ∈ decN m s, digB c = true
  | 0, _, _, h, _ => by omega
  | k + 1, m, s, h, hs => by
    by_cases h0 : m = 0
    · subst h0; rw [decN_zero]; exact hs
    · rw [decN_pos (by omega)]
      refine decN_dig k (m / 10) _ (by omega) (fun c hc => ?_)
      rcases List.mem_cons.1 hc with rfl | hc
      · unfold digB
        rw [dig_nat]
        simp
        omega
      · exact hs c hc
theorem decN_head : ∀ (k m : Nat) (s : List UInt8), m < k → 0 < m → ∃ c r, decN m s = c :: r ∧ c.toNat ≠ 48 ∧ c.toNat ≠ 45
  | 0, _, _, h, _ => by omega
  | k + 1, m, s, h, h0 => by
    rw [decN_pos h0]
    by_cases h1 : m / 10 = 0
    · rw [h1, decN_zero]
      exact ⟨_, _, rfl, by rw [dig_nat]; omega, by rw [dig_nat]; omega⟩
    · exact decN_head k (m / 10) _ (by omega) (by omega)
def runN : List UInt8 → Nat → Option Nat
  | [], n => some n
  | c :: cs, n => if 1099511627776 < 10 * n + (c.toNat - 48) then none else runN cs (10 * n + (c.toNat - 48))
theorem run_dec : ∀ (k m : Nat) (s : List UInt8), m < k → runN (decN m s) 0 = if 1099511627776 < m then none else runN s m
  | 0, _, _, h => by omega
  | k + 1, m, s, h => by
    by_cases h0 : m = 0
    · subst h0; rw [decN_zero]; rfl
    · rw [decN_pos (by omega), run_dec k (m / 10) _ (by omega)]
      by_cases h1 : 1099511627776 < m / 10
      · rw [if_pos h1, if_pos (by omega)]
      · rw [if_neg h1]
        unfold runN
        rw [dig_nat]
        have e : 10 * (m / 10) + (48 + m % 10 - 48) = m := by omega
        rw [e]
        by_cases h2 : 1099511627776 < m
        · rw [if_pos h2, if_pos h2]
        · rw [if_neg h2, if_neg h2]
          cases s <;> rfl

/-! ### The reference's Decimal -/
theorem digit_sub (d : Nat) (h : d < 10) : strSub (⟨[48, 49, 50, 51, 52, 53, 54, 55, 56, 57]⟩ : Str) (d : Int) ((d : Int) + 1) = some ⟨[UInt8.ofNat (48 + d)]⟩ := by
  have key : ∀ k : Fin 10, strSub (⟨[48, 49, 50, 51, 52, 53, 54, 55, 56, 57]⟩ : Str) (k.val : Int) ((k.val : Int) + 1) = some ⟨[UInt8.ofNat (48 + k.val)]⟩ := by decide +kernel
  exact key ⟨d, h⟩
theorem dec_k2 (s : List UInt8) (z : Int) (d : Nat) (hd : d < 10) (hs : s.length ≤ 100) (hz : -9223372036854775808 ≤ z.tdiv 10 ∧ z.tdiv 10 ≤ 9223372036854775807) (c : (Int × Str) → Option Str) :
    ref1_Decimal_k2 ⟨s⟩ z c (d : Int) = c (z.tdiv 10, ⟨UInt8.ofNat (48 + d) :: s⟩) := by
  unfold ref1_Decimal_k2
  have c1 : strCat ⟨[UInt8.ofNat (48 + d)]⟩ ⟨s⟩ = some ⟨UInt8.ofNat (48 + d) :: s⟩ := by
    unfold strCat
    rw [if_pos (by simp only [List.length_singleton]; omega)]
    rfl
  rw [chk_true (i64b_of (by omega) (by omega)), digit_sub d hd, Option.bind_some, c1, Option.bind_some, chk_true (by rw [i64b_of hz.1 hz.2]; rfl)]
theorem dec_loop (n0 : Int) (neg : Bool) : ∀ (n m : Nat) (s : List UInt8), m < n → m * 10 ^ s.length ≤ 9223372036854775808 → s.length ≤ 19 →
    iter (ref1_Decimal_b1 n0) n (if neg then -(m : Int) else (m : Int), ⟨s⟩) = ref1_Decimal_k1 n0 ⟨decN m s⟩ () := by
  intro n
  induction n with
  | zero => intro m s h; omega
  | succ n ih =>
    intro m s hm hp hs
    show ref1_Decimal_b1 n0 (iter (ref1_Decimal_b1 n0) n) (if neg then -(m : Int) else (m : Int), ⟨s⟩) = _
    simp only [ref1_Decimal_b1]
    by_cases h0 : m = 0
    · subst h0
      rw [if_neg (by cases neg <;> simp), decN_zero]
    · rw [if_pos (by cases neg <;> simp <;> omega), decN_pos (by omega)]
      have hs18 : s.length ≤ 18 := by
        refine Nat.le_of_lt_succ (Nat.lt_of_not_le fun h19 => ?_)
        have h1 : (10 : Nat) ^ 19 ≤ 10 ^ s.length := Nat.pow_le_pow_right (by omega) h19
        have h2 : 1 * 10 ^ s.length ≤ m * 10 ^ s.length := Nat.mul_le_mul_right _ (by omega)
        have h3 : (10 : Nat) ^ 19 = 10000000000000000000 := by decide
        omega
      have hm63 : m ≤ 9223372036854775808 := by
        have h1 : m * 1 ≤ m * 10 ^ s.length := Nat.mul_le_mul_left _ (Nat.pos_of_ne_zero (by simp))
        omega
      have hp' : m / 10 * 10 ^ (s.length + 1) ≤ 9223372036854775808 := by
        have h1 : m / 10 * 10 ^ (s.length + 1) = m / 10 * 10 * 10 ^ s.length := by rw [Nat.pow_succ, Nat.mul_comm (10 ^ s.length) 10, Nat.mul_assoc]
        have h2 : m / 10 * 10 * 10 ^ s.length ≤ m * 10 ^ s.length := Nat.mul_le_mul_right _ (by omega)
        omega
      have hd : m % 10 < 10 := by omega
      have goal := ih (m / 10) (UInt8.ofNat (48 + m % 10) :: s) (by omega) (by simpa using hp') (by simp only [List.length_cons]; omega)
      cases neg with
      | true =>
        simp only [if_true] at goal ⊢
        have e1 : (-(m : Int)).tmod 10 = -((m % 10 : Nat) : Int) := by rw [Int.neg_tmod, Int.tmod_eq_emod_of_nonneg (by omega)]; omega
        have e2 : (-(m : Int)).tdiv 10 = -((m / 10 : Nat) : Int) := by rw [Int.neg_tdiv, Int.tdiv_eq_ediv_of_nonneg (by omega)]; omega
        rw [e1]
        by_cases hr : m % 10 = 0
        · rw [if_neg (by rw [hr]; simp)]
          have e3 : (-((m % 10 : Nat) : Int)) = ((m % 10 : Nat) : Int) := by rw [hr]; rfl
          rw [e3, dec_k2 s _ (m % 10) hd (by omega) (by rw [e2]; omega), e2, goal]
        · rw [if_pos (by simp; omega), Int.neg_neg, chk_true (i64b_of (by omega) (by omega)), dec_k2 s _ (m % 10) hd (by omega) (by rw [e2]; omega), e2, goal]
      | false =>
        simp only [Bool.false_eq_true, if_false] at goal ⊢
        have e1 : ((m : Int)).tmod 10 = ((m % 10 : Nat) : Int) := by rw [Int.tmod_eq_emod_of_nonneg (by omega)]; omega
        have e2 : ((m : Int)).tdiv 10 = ((m / 10 : Nat) : Int) := by rw [Int.tdiv_eq_ediv_of_nonneg (by omega)]; omega
        rw [e1, if_neg (by simp; omega), dec_k2 s _ (m % 10) hd (by omega) (by rw [e2]; omega), e2, goal]

/-! ### Number -/
theorem cutp_neg (D : List UInt8) : strings_CutPrefix_m ⟨45 :: D⟩ ⟨[45]⟩ = some (⟨D⟩, true) := by
  unfold strings_CutPrefix_m stringslite_CutPrefix_m stringslite_HasPrefix_m
  have h1 : strSub ⟨45 :: D⟩ 0 ((([45] : List UInt8).length : Nat) : Int) = some ⟨[45]⟩ := sub_pre [45] D
  have h2 : strSub ⟨45 :: D⟩ ((([45] : List UInt8).length : Nat) : Int) (((45 :: D).length : Nat) : Int) = some ⟨D⟩ := sub_suf [45] D
  have e : decide (((([45] : List UInt8).length : Nat) : Int) ≤ (((45 :: D).length : Nat) : Int)) = true := by simp; omega
  simp only
  rw [h1, h2, e, whn_t rfl, Option.bind_some, Option.bind_some]
  simp
theorem cutp_pos (c : UInt8) (D : List UInt8) (hc : c.toNat ≠ 45) : strings_CutPrefix_m ⟨c :: D⟩ ⟨[45]⟩ = some (⟨c :: D⟩, false) := by
  unfold strings_CutPrefix_m stringslite_CutPrefix_m stringslite_HasPrefix_m
  have h1 : strSub ⟨c :: D⟩ 0 ((([45] : List UInt8).length : Nat) : Int) = some ⟨[c]⟩ := sub_pre [c] D
  have e : decide (((([45] : List UInt8).length : Nat) : Int) ≤ (((c :: D).length : Nat) : Int)) = true := by simp; omega
  have hne : ¬ c = 45 := fun h => hc (by rw [h]; rfl)
  simp only
  rw [h1, e, whn_t rfl, Option.bind_some, Option.bind_some]
  simp [hne]
theorem dig_wrap (c : UInt8) (h : digB c = true) : IntKind.i64.wrap (IntKind.u8.wrap ((c.toNat : Int) - 48)) = ((c.toNat - 48 : Nat) : Int) := by
  have key : ∀ k : Fin 10, IntKind.i64.wrap (IntKind.u8.wrap (((48 + k.val : Nat) : Int) - 48)) = (k.val : Int) := by decide +kernel
  unfold digB at h
  simp only [Bool.and_eq_true, decide_eq_true_eq] at h
  have := key ⟨c.toNat - 48, by omega⟩
  simp only at this
  rwa [show 48 + (c.toNat - 48) = c.toNat by omega] at this
def numR (neg : Bool) (r : Option Nat) : Int × Bool := match r with | none => (0, false) | some v => (if neg then -(v : Int) else (v : Int), true)
theorem num_loop (D : List UInt8) (neg : Bool) (hd : ∀ c ∈ D, digB c = true) (hl : D.length ≤ 1000) : iter (words_Number_b1 (⟨D⟩, neg)) FUEL (0, 0) = some (numR neg (runN D 0)) := by
  have := iter_list (B := words_Number_b1 (⟨D⟩, neg)) (fun (q : Nat) i => ((q : Int), i)) D (fun q _ => q ≤ 1099511627776) (fun q r => some (numR neg (runN r q))) ?_ ?_ FUEL 0 0 (by omega) (by omega) (fuel_of (by omega))
  · simpa using this
  · intro c q i x r hq hdr hi hx hk
    have hxi := idx_get hx
    have hxd := hd x (List.mem_of_getElem? hxi)
    have hw := dig_wrap x hxd
    have hxb : x.toNat - 48 ≤ 9 := by
      unfold digB at hxd
      simp only [Bool.and_eq_true, decide_eq_true_eq] at hxd
      omega
    simp only [words_Number_b1]
    rw [if_pos (by simp; omega), byteAt_get (s := ⟨D⟩) hxi, Option.bind_some, isDigit_m, Option.bind_some, hxd, if_neg (by simp), chk_true (i64b_of (by omega) (by omega)), Option.bind_some, hw, chk_true (i64b_of (by omega) (by omega))]
    unfold runN
    by_cases h : 1099511627776 < 10 * q + (x.toNat - 48)
    · rw [if_pos (by simp; omega), if_pos h]; rfl
    · rw [if_neg (by simp; omega), if_neg h]
      have e : 10 * (q : Int) + ((x.toNat - 48 : Nat) : Int) = ((10 * q + (x.toNat - 48) : Nat) : Int) := by omega
      rw [e, hk _ (by omega)]
  · intro c q hq
    simp only [words_Number_b1]
    rw [if_neg (by simp)]
    unfold words_Number_k1 words_Number_k2 runN numR
    cases neg with
    | true => rw [if_pos rfl, chk_true (i64b_of (by omega) (by omega))]; rfl
    | false => rfl
theorem dec_num (v : Int) (h1 : -9223372036854775808 ≤ v) (h2 : v ≤ 9223372036854775807) :
    ∃ y, ref1_Decimal_m v = some y ∧ words_Number_m y = some (if 1099511627776 < v ∨ v < -1099511627776 then (0, false) else (v, true)) := by
  by_cases hs : 0 ≤ v ∧ v < 10
  · have key : ∀ k : Fin 10, (ref1_Decimal_m (k.val : Int)).bind words_Number_m = some ((k.val : Int), true) := by decide +kernel
    have := key ⟨v.toNat, by omega⟩
    simp only at this
    rw [Int.toNat_of_nonneg hs.1] at this
    obtain ⟨y, hy, hy2⟩ := bind_some this
    refine ⟨y, hy, ?_⟩
    rw [hy2, if_neg (by omega)]
  · have h0 : 0 < v.natAbs := by omega
    have hp : v.natAbs * 10 ^ ([] : List UInt8).length ≤ 9223372036854775808 := by simp; omega
    have hlen := decN_len 20 v.natAbs [] (by have : (10 : Nat) ^ 20 = 100000000000000000000 := by decide
                                             omega)
    simp only [List.length_nil, Nat.zero_add] at hlen
    have hdig := decN_dig (v.natAbs + 1) v.natAbs [] (by omega) (by simp)
    obtain ⟨c, r, hc, hc48, hc45⟩ := decN_head (v.natAbs + 1) v.natAbs [] (by omega) h0
    have hrun := run_dec (v.natAbs + 1) v.natAbs [] (by omega)
    have hloop := dec_loop v (decide (v < 0)) FUEL v.natAbs [] (by have : FUEL = 18446744073709551616 := rfl
                                                                   omega) hp (by simp)
    have ev : (if decide (v < 0) = true then -(v.natAbs : Int) else (v.natAbs : Int)) = v := by
      by_cases hv : v < 0
      · rw [if_pos (by simpa using hv)]; omega
      · rw [if_neg (by simpa using hv)]; omega
    rw [ev] at hloop
    rw [hc] at hloop hlen hdig hrun
    have hnum : ∀ neg, words_Number_m (if neg then ⟨45 :: c :: r⟩ else ⟨c :: r⟩) = some (numR neg (runN (c :: r) 0)) := by
      intro neg
      have e1 : strings_CutPrefix_m (if neg then ⟨45 :: c :: r⟩ else ⟨c :: r⟩) ⟨[45]⟩ = some (⟨c :: r⟩, neg) := by
        cases neg with
        | true => exact cutp_neg _
        | false => exact cutp_pos _ _ hc45
      have hb0 : byteAt ⟨c :: r⟩ 0 = some (c.toNat : Int) := byteAt_get (i := 0) (s := ⟨c :: r⟩) rfl
      have d0 : decide ((⟨c :: r⟩ : Str) = ⟨[]⟩) = false := by simp
      have d1 : decide ((c.toNat : Int) = 48) = false := by simp; omega
      unfold words_Number_m
      rw [e1, Option.bind_some]
      simp only
      rw [d0, Bool.not_false, whn_t rfl, hb0, Option.bind_some, d1, if_neg (by simp), chk_true (by simp only [decide_eq_true_eq]; omega), num_loop _ _ hdig (by omega)]
    have hdec : ref1_Decimal_m v = some (if decide (v < 0) then ⟨45 :: c :: r⟩ else ⟨c :: r⟩) := by
      unfold ref1_Decimal_m
      rw [if_neg (by simp; omega), hloop]
      unfold ref1_Decimal_k1 ref1_Decimal_k3
      by_cases hv : v < 0
      · have c1 : strCat ⟨[45]⟩ ⟨c :: r⟩ = some ⟨45 :: c :: r⟩ := by
          unfold strCat
          rw [if_pos (by simp only [List.length_singleton]; omega)]
          rfl
        rw [if_pos (by simpa using hv), if_pos (by simpa using hv), c1, Option.bind_some]
      · rw [if_neg (by simpa using hv), if_neg (by simpa using hv)]
    refine ⟨_, hdec, ?_⟩
    rw [hnum, hrun]
    by_cases hb : 1099511627776 < v.natAbs
    · rw [if_pos hb, if_pos (by omega)]; rfl
    · rw [if_neg hb, if_neg (by omega)]
      unfold runN numR
      simp only
      rw [ev]
end Go.Proofs.YtohhihdjdelckaaDoor

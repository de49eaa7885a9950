/- Words laws: numbers, by plain functions. -/
import Derived.Test.YtohhihdjdelckaaDoorVl
import Derived.Test.YtohhihdjdelckaaDoorVn
import Derived.Test.YtohhihdjdelckaaDoorWb
import Derived.Test.YtohhihdjdelckaaDoorWe
namespace Go.Proofs.YtohhihdjdelckaaDoor
open Go.Dc
set_option maxRecDepth 10000
set_option linter.unusedSimpArgs false

/-- The value of decimal digits; none at another byte. -/
def valD : List UInt8 → Nat → Option Nat
  | [], n => some n
  | c :: cs, n => if digB c then valD cs (10 * n + (c.toNat - 48)) else none
def numV (neg : Bool) (r : Option Nat) : Int × Bool :=
  match r with
  | none => (0, false)
  | some v => if 1099511627776 < v then (0, false) else (if neg then -(v : Int) else (v : Int), true)
def numD (neg : Bool) : List UInt8 → Int × Bool
  | [] => (0, false)
  | c :: r => if c.toNat = 48 ∧ (neg = true ∨ r ≠ []) then (0, false) else numV neg (valD (c :: r) 0)
def numS : List UInt8 → Int × Bool
  | [] => (0, false)
  | c :: r => if c.toNat = 45 then numD true r else numD false (c :: r)

theorem valD_ge : ∀ (l : List UInt8) (n v : Nat), valD l n = some v → n * 10 ^ l.length ≤ v
  | [], n, v, h => by
    simp only [valD, Option.some.injEq] at h
    subst h
    simp
  | c :: cs, n, v, h => by
    simp only [valD] at h
    split at h
    · have := valD_ge cs _ v h
      have e : n * 10 ^ (c :: cs).length ≤ (10 * n + (c.toNat - 48)) * 10 ^ cs.length := by
        rw [List.length_cons, Nat.pow_succ]
        have : n * (10 ^ cs.length * 10) = 10 * n * 10 ^ cs.length := by
          rw [Nat.mul_comm (10 ^ cs.length) 10, ← Nat.mul_assoc, Nat.mul_comm n 10]
        rw [this]
        exact Nat.mul_le_mul_right _ (by omega)
      omega
    · cases h

theorem num_step (D : List UInt8) (neg : Bool) (hl : D.length ≤ 1000000000000) : iter (words_Number_b1 (⟨D⟩, neg)) FUEL (0, 0) = some (numV neg (valD D 0)) := by
  have := iter_list (B := words_Number_b1 (⟨D⟩, neg)) (fun (q : Nat) i => ((q : Int), i)) D (fun q _ => q ≤ 1099511627776) (fun q r => some (numV neg (valD r q))) ?_ ?_ FUEL 0 0 (by omega) (by omega) (fuel_of (by omega))
  · simpa using this
  · intro c q i x r hq hdr hi hx hk
    have hxi := idx_get hx
    simp only [words_Number_b1]
    rw [if_pos (by simp <;> omega), byteAt_get (s := ⟨D⟩) hxi, Option.bind_some, isDigit_m, Option.bind_some]
    unfold valD
    cases hxd : digB x with
    | false => simp [numV]
    | true =>
      have hw := dig_wrap x hxd
      have hxb : x.toNat - 48 ≤ 9 := by
        unfold digB at hxd
        simp only [Bool.and_eq_true, decide_eq_true_eq] at hxd
        omega
      rw [if_neg (by simp), chk_true (i64b_of (by omega) (by omega)), Option.bind_some, hw, chk_true (i64b_of (by omega) (by omega)), if_pos rfl]
      by_cases h : 1099511627776 < 10 * q + (x.toNat - 48)
      · rw [if_pos (by simp <;> omega)]
        cases hv : valD r (10 * q + (x.toNat - 48)) with
        | none => rfl
        | some v =>
          have h1 := valD_ge _ _ _ hv
          have h2 : 1 ≤ 10 ^ r.length := Nat.one_le_pow _ _ (by omega)
          have h3 : (10 * q + (x.toNat - 48)) * 1 ≤ (10 * q + (x.toNat - 48)) * 10 ^ r.length := Nat.mul_le_mul_left _ h2
          unfold numV
          simp only
          rw [if_pos (by omega)]
      · rw [if_neg (by simp <;> omega)]
        have e : 10 * (q : Int) + ((x.toNat - 48 : Nat) : Int) = ((10 * q + (x.toNat - 48) : Nat) : Int) := by omega
        rw [e, hk _ (by omega)]
  · intro c q hq
    simp only [words_Number_b1]
    rw [if_neg (by simp)]
    unfold words_Number_k1 words_Number_k2 valD numV
    have hq' : ¬ 1099511627776 < q := by omega
    cases neg with
    | true =>
      simp only
      rw [if_pos trivial, chk_true (i64b_of (by omega) (by omega)), if_neg hq', if_pos trivial]
    | false =>
      simp only
      rw [if_neg (by simp), if_neg hq', if_neg (by simp)]

theorem numD_m (D : List UInt8) (neg : Bool) (s : Str) (hc : strings_CutPrefix_m s ⟨[45]⟩ = some (⟨D⟩, neg)) (hl : D.length ≤ 1000000000000) : words_Number_m s = some (numD neg D) := by
  unfold words_Number_m
  rw [hc, Option.bind_some]
  simp only
  cases D with
  | nil => simp [whn, numD]
  | cons c r =>
    have hb0 : byteAt ⟨c :: r⟩ 0 = some (c.toNat : Int) := byteAt_get (i := 0) (s := ⟨c :: r⟩) rfl
    have d0 : decide ((⟨c :: r⟩ : Str) = ⟨[]⟩) = false := by simp
    rw [d0, Bool.not_false, whn_t rfl, hb0, Option.bind_some, Bool.false_or]
    by_cases hz : c.toNat = 48 ∧ (neg = true ∨ r ≠ [])
    · rw [if_pos]
      · simp [numD, hz]
      · obtain ⟨h1, h2⟩ := hz
        have : decide ((c.toNat : Int) = 48) = true := by simp; omega
        rw [this, Bool.true_and]
        rcases h2 with h2 | h2
        · simp [h2]
        · have : 0 < r.length := List.length_pos_iff.2 h2
          simp only [List.length_cons, Bool.or_eq_true, decide_eq_true_eq]
          right; omega
    · rw [if_neg]
      · rw [chk_true (by simp only [decide_eq_true_eq, List.length_cons] at hl ⊢; omega), num_step _ _ hl]
        simp only [numD]
        rw [if_neg hz]
      · intro h
        simp only [Bool.and_eq_true, Bool.or_eq_true, decide_eq_true_eq, List.length_cons] at h
        refine hz ⟨by omega, ?_⟩
        rcases h.2 with h2 | h2
        · exact .inl h2
        · right; intro hr; subst hr; simp at h2

theorem cutp_nil : strings_CutPrefix_m ⟨[]⟩ ⟨[45]⟩ = some (⟨[]⟩, false) := by decide +kernel
theorem num_m (s : Str) (hl : s.l.length ≤ 1000000000000) : words_Number_m s = some (numS s.l) := by
  obtain ⟨l⟩ := s
  cases l with
  | nil => exact numD_m [] false _ cutp_nil (by simp)
  | cons c r =>
    simp only [List.length_cons] at hl
    by_cases hc : c.toNat = 45
    · have : c = 45 := by
        apply UInt8.toNat_inj.1; rw [hc]; rfl
      subst this
      rw [numD_m r true _ (cutp_neg r) (by omega)]
      rfl
    · rw [numD_m (c :: r) false _ (cutp_pos c r hc) (by simp <;> omega)]
      simp only [numS]
      rw [if_neg hc]

/-! ### The reference -/
theorem rnum_step (D : List UInt8) (neg : Bool) (hl : D.length ≤ 13) : iter (ref1_Number_b1 ⟨D⟩ (if neg then -1 else 1)) FUEL (0, 0) = some (numV neg (valD D 0)) := by
  have := iter_list (B := ref1_Number_b1 ⟨D⟩ (if neg then -1 else 1)) (fun (q : Nat) i => ((q : Int), i)) D (fun q i => i ≤ 13 ∧ q < 10 ^ i) (fun q r => some (numV neg (valD r q))) ?_ ?_ FUEL 0 0 (by simp) (by omega) (fuel_of (by omega))
  · simpa using this
  · rintro c q i x r ⟨hi13, hq⟩ hdr hi hx hk
    have hxi := idx_get hx
    simp only [ref1_Number_b1]
    rw [if_pos (by simp <;> omega), byteAt_get (s := ⟨D⟩) hxi, Option.bind_some, digit_m, Option.bind_some]
    unfold valD
    cases hxd : digB x with
    | false => simp [numV]
    | true =>
      have hw := dig_wrap x hxd
      have hxb : x.toNat - 48 ≤ 9 := by
        unfold digB at hxd
        simp only [Bool.and_eq_true, decide_eq_true_eq] at hxd
        omega
      have hp : (10 : Nat) ^ i ≤ 10 ^ 13 := Nat.pow_le_pow_right (by omega) hi13
      have hp13 : (10 : Nat) ^ 13 = 10000000000000 := by decide
      rw [if_neg (by simp), chk_true (i64b_of (by omega) (by omega)), Option.bind_some, hw, chk_true (i64b_of (by omega) (by omega)), chk_true (i64b_of (by omega) (by omega)), if_pos rfl]
      have e : 10 * (q : Int) + ((x.toNat - 48 : Nat) : Int) = ((10 * q + (x.toNat - 48) : Nat) : Int) := by omega
      rw [e, hk _ ⟨by omega, by rw [Nat.pow_succ]; omega⟩]
  · rintro c q ⟨hi13, hq⟩
    have hp : (10 : Nat) ^ D.length ≤ 10 ^ 13 := Nat.pow_le_pow_right (by omega) hi13
    have hp13 : (10 : Nat) ^ 13 = 10000000000000 := by decide
    simp only [ref1_Number_b1]
    rw [if_neg (by simp)]
    unfold ref1_Number_k2 valD numV
    simp only
    by_cases hb : 1099511627776 < q
    · rw [if_pos (by simp <;> omega), if_pos hb]
    · rw [if_neg (by simp <;> omega), if_neg hb]
      cases neg with
      | true => rw [chk_true (i64b_of (by simp <;> omega) (by simp <;> omega))]; simp
      | false => rw [chk_true (i64b_of (by simp <;> omega) (by simp <;> omega))]; simp

theorem valD_long (c : UInt8) (r : List UInt8) (hc : c.toNat ≠ 48) (hl : 13 ≤ r.length) (neg : Bool) : numV neg (valD (c :: r) 0) = (0, false) := by
  cases hv : valD (c :: r) 0 with
  | none => rfl
  | some v =>
    simp only [valD] at hv
    split at hv
    · rename_i hd
      unfold digB at hd
      simp only [Bool.and_eq_true, decide_eq_true_eq] at hd
      have h1 := valD_ge _ _ _ hv
      have h2 : (10 : Nat) ^ 13 ≤ 10 ^ r.length := Nat.pow_le_pow_right (by omega) hl
      have hp13 : (10 : Nat) ^ 13 = 10000000000000 := by decide
      have h3 : 1 * 10 ^ r.length ≤ (10 * 0 + (c.toNat - 48)) * 10 ^ r.length := Nat.mul_le_mul_right _ (by omega)
      unfold numV
      simp only
      rw [if_pos (by omega)]
    · cases hv

theorem rnumD_m (D : List UInt8) (neg : Bool) : ref1_Number_k1 (⟨D⟩, if neg then -1 else 1) = some (numD neg D) := by
  unfold ref1_Number_k1
  simp only
  cases D with
  | nil => rfl
  | cons c r =>
    have hb0 : byteAt ⟨c :: r⟩ 0 = some (c.toNat : Int) := byteAt_get (i := 0) (s := ⟨c :: r⟩) rfl
    have hsg : decide ((if neg then (-1 : Int) else 1) < 0) = neg := by cases neg <;> rfl
    by_cases hl : r.length + 1 ≤ 13
    · have e : (decide (((c :: r).length : Int) < 1) || decide (13 < ((c :: r).length : Int))) = false := by simp; omega
      rw [e, Bool.not_false, whn_t rfl, hb0, Option.bind_some, Bool.false_or, hsg]
      by_cases hz : c.toNat = 48 ∧ (neg = true ∨ r ≠ [])
      · rw [if_pos]
        · simp only [numD]; rw [if_pos hz]
        · obtain ⟨h1, h2⟩ := hz
          have : decide ((c.toNat : Int) = 48) = true := by simp; omega
          rw [this, Bool.true_and]
          rcases h2 with h2 | h2
          · simp [h2]
          · have : 0 < r.length := List.length_pos_iff.2 h2
            simp only [List.length_cons, Bool.or_eq_true, decide_eq_true_eq]
            left; omega
      · rw [if_neg]
        · rw [rnum_step _ _ (by simp only [List.length_cons]; omega)]
          simp only [numD]
          rw [if_neg hz]
        · intro h
          simp only [Bool.and_eq_true, Bool.or_eq_true, decide_eq_true_eq, List.length_cons] at h
          refine hz ⟨by omega, ?_⟩
          rcases h.2 with h2 | h2
          · right; intro hr; subst hr; simp at h2
          · exact .inl h2
    · have e : (decide (((c :: r).length : Int) < 1) || decide (13 < ((c :: r).length : Int))) = true := by simp; omega
      rw [e, Bool.not_true, whn_f rfl, Option.bind_some, Bool.true_or, if_pos rfl]
      simp only [numD]
      split
      · rfl
      · rename_i hz
        rw [valD_long c r _ (by omega)]
        intro h48
        exact hz ⟨h48, .inr (fun h => by subst h; simp at hl)⟩

theorem rnum_m (s : Str) : ref1_Number_m s = some (numS s.l) := by
  obtain ⟨l⟩ := s
  unfold ref1_Number_m
  simp only
  cases l with
  | nil =>
    rw [whn_f (by rfl), Option.bind_some, if_neg (by simp)]
    exact rnumD_m [] false
  | cons c r =>
    have hb0 : byteAt ⟨c :: r⟩ 0 = some (c.toNat : Int) := byteAt_get (i := 0) (s := ⟨c :: r⟩) rfl
    have e : decide (0 < (((c :: r).length : Nat) : Int)) = true := by simp
    rw [e, whn_t rfl, hb0, Option.bind_some, Bool.true_and]
    by_cases hc : c.toNat = 45
    · have hs : strSub ⟨c :: r⟩ 1 (((c :: r).length : Nat) : Int) = some ⟨r⟩ := sub_suf [c] r
      rw [if_pos (by simp <;> omega), hs, Option.bind_some]
      simp only [numS]
      rw [if_pos hc]
      exact rnumD_m r true
    · rw [if_neg (by simp <;> omega)]
      simp only [numS]
      rw [if_neg hc]
      exact rnumD_m (c :: r) false

end Go.Proofs.YtohhihdjdelckaaDoor

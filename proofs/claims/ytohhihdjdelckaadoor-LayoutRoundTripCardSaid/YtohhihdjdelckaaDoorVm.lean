/- Words laws: numbers, by plain functions. -/
import Derived.Test.YtohhihdjdelckaaDoorVl
import Derived.Test.YtohhihdjdelckaaDoorVn
import Derived.Test.YtohhihdjdelckaaDoorWb
import Derived.Test.YtohhihdjdelckaaDoorWe
set_option linter.all false
namespace Go.Proofs.YtohhihdjdelckaaDoor
open Go.Dc
set_option maxRecDepth 10000

/-- The value of decimal digits; none at another byte. -/
def valD : List UInt8 → Nat → Option Nat
  | [], n => some n
  | c :: cs, n => if digB c then valD cs (10 * n + (c.toNat - 48)) else none
def numV (neg : Bool) (r : Option Nat) : Int × Bool :=
  match r with
  | none => (0, false)
  | some v => if 1099511627776 < v then (0, false) else (if neg then -(v : Int) else (v : Int), true)
def numD (neg : Bool) : List UInt8 → Int × Bool
  | [] => (0, false)
  | c :: r => if c.toNat = 48 ∧ (neg = true ∨ r ≠ []) then (0, false) else numV neg (valD (c :: r) 0)
def numS : List UInt8 → Int × Bool
  | [] => (0, false)
  | c :: r => if c.toNat = 45 then numD true r else numD false (c :: r)

theorem valD_ge : ∀ (l : List UInt8) (n v : Nat), valD l n = some v → n * 10 ^ l.length ≤ v
  | [], n, v, h => by
    simp only [valD, Option.some.injEq] at h
    subst h
    simp
  | c :: cs, n, v, h => by
    simp only [valD] at h
    split at h
    · have := valD_ge cs _ v h
      have e : n * 10 ^ (c :: cs).length ≤ (10 * n + (c.toNat - 48)) * 10 ^ cs.length := by
        rw [List.length_cons, Nat.pow_succ]
        have : n * (10 ^ cs.length * 10) = 10 * n * 10 ^ cs.length := by
          rw [Nat.mul_comm (10 ^ cs.length) 10, ← Nat.mul_assoc, Nat.mul_comm n 10]
        rw [this]
        exact Nat.mul_le_mul_right _ (by omega)
      omega
    · cases h

theorem num_step (D : List UInt8) (neg : Bool) (hl : D.length ≤ 1000000000000) : iter (words_Number_b1 (⟨D⟩, neg)) FUEL (0, 0) = some (numV neg (valD D 0)) := by
  have := iter_list (B := words_Number_b1 (⟨D⟩, neg)) (fun (q : Nat) i => ((q : Int), i)) D (fun q _ => q ≤ 1099511627776) (fun q r => some (numV neg (valD r q))) ?_ ?_ FUEL 0 0 (by omega) (by omega) (fuel_of (by omega))
  · simpa using this
  · intro c q i x r hq hdr hi hx hk
    have hxi := idx_get hx
    simp only [words_Number_b1]
    rw [if_pos (by simp <;> omega), byteAt_get (s := ⟨D⟩) hxi, Option.bind_some, isDigit_m, Option.bind_some]
    unfold valD
    cases hxd : digB x with
    | false => simp [numV]
    | true =>
      have hw := dig_wrap x hxd
      have hxb : x.toNat - 48 ≤ 9 := by
        unfold digB at hxd
        simp only [Bool.and_eq_true, decide_eq_true_eq] at hxd
        omega
      rw [if_neg (by simp), chk_true (i64b_of (by omega) (by omega)), Option.bind_some, hw, chk_true (i64b_of (by omega) (by omega)), if_pos rfl]
      by_cases h : 1099511627776 < 10 * q + (x.toNat - 48)
      · rw [if_pos (by simp <;> omega)]
        cases hv : valD r (10 * q + (x.toNat - 48)) with
        | none => rfl
        | some v =>
          have h1 := valD_ge _ _ _ hv
          have h2 : 1 ≤ 10 ^ r.length := Nat.one_le_pow _ _ (by omega)
          have h3 : (10 * q + (x.toNat - 48)) * 1 ≤ (10 * q + (x.toNat - 48)) * 10 ^ r.length := Nat.mul_le_mul_left _ h2
          unfold numV
          simp only
          rw [if_pos (by omega)]
      · rw [if_neg (by simp <;> omega)]
        have e : 10 * (q : Int) + ((x.toNat - 48 : Nat) : Int) = ((10 * q + (x.toNat - 48) : Nat) : Int) := by omega
        rw [e, hk _ (by omega)]
  · intro c q hq
    simp only [words_Number_b1]
    rw [if_neg (by simp)]
    unfold words_Number_k1 words_Number_k2 valD numV
    have hq' : ¬ 1099511627776 < q := by omega
    cases neg with
    | true =>
      simp only
      rw [if_pos trivial, chk_true (i64b_of (by omega) (by omega)), if_neg hq', if_pos trivial]
    | false =>
      simp only
      rw [if_neg (by simp), if_neg hq', if_neg (by simp)]

theorem numD_m (D : List UInt8) (neg : Bool) (s : Str) (hc : strings_CutPrefix_m s ⟨[45]⟩ = some (⟨D⟩, neg)) (hl : D.length ≤ 1000000000000) : words_Number_m s = some (numD neg D) := by
  unfold words_Number_m
  rw [hc, Option.bind_some]
  simp only
  cases D with
  | nil => simp [whn, numD]
  | cons c r =>
    have hb0 : byteAt ⟨c :: r⟩ 0 = some (c.toNat : Int) := byteAt_get (i := 0) (s := ⟨c :: r⟩) rfl
    have d0 : decide ((⟨c :: r⟩ : Str) = ⟨[]⟩) = false := by simp
    rw [d0, Bool.not_false, whn_t rfl, hb0, Option.bind_some, Bool.false_or]
    by_cases hz : c.toNat = 48 ∧ (neg = true ∨ r ≠ [])
    · rw [if_pos]
      · simp [numD, hz]
      · obtain ⟨h1, h2⟩ := hz
        have : decide ((c.toNat : Int) = 48) = true := by simp; omega
        rw [this, Bool.true_and]
        rcases h2 with h2 | h2
        · simp [h2]
        · have : 0 < r.length := List.length_pos_iff.2 h2
          simp only [List.length_cons, Bool.or_eq_true, decide_eq_true_eq]
          right; omega
    · rw [if_neg]
      · rw [chk_true (by simp only [decide_eq_true_eq, List.length_cons] at hl ⊢; omega), num_step _ _ hl]
        simp only [numD]
        rw [if_neg hz]
      · intro h
        simp only [Bool.and_eq_true, Bool.or_eq_true, decide_eq_true_eq, List.length_cons] at h
        refine hz ⟨by omega, ?_⟩
        rcases h.2 with h2 | h2
        · exact .inl h2
        · right; intro hr; subst hr; simp at h2

theorem cutp_nil : strings_CutPrefix_m ⟨[]⟩ ⟨[45]⟩ = some (⟨[]⟩, false) := by decide +kernel
theorem num_m (s : Str) (hl : s.l.length ≤ 1000000000000) : words_Number_m s = some (numS s.l) := by
  obtain ⟨l⟩ := s
  cases l with
  | nil => exact numD_m [] false _ cutp_nil (by simp)
  | cons c r =>
    simp only [List.length_cons] at hl
    by_cases hc : c.toNat = 45
    · have : c = 45 := by
        apply UInt8.toNat_inj.1; rw [hc]; rfl
      subst this
      rw [numD_m r true _ (cutp_neg r) (by omega)]
      rfl
    · rw [numD_m (c :: r) false _ (cutp_pos c r hc) (by simp <;> omega)]
      simp only [numS]
      rw [if_neg hc]

/-! ### The reference -/
end Go.Proofs.YtohhihdjdelckaaDoor

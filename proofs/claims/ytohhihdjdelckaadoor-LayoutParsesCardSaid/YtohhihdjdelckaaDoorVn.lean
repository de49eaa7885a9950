/- Plain laws of words: numerals. -/
import Derived.Test.YtohhihdjdelckaaDoorVl
import Derived.Test.YtohhihdjdelckaaDoorWb
import Derived.Test.YtohhihdjdelckaaDoorWe
namespace Go.Proofs.YtohhihdjdelckaaDoor
open Go.Dc

/-! ### The reference's Decimal -/
/-! ### Number -/
theorem cutp_neg (D : List UInt8) : strings_CutPrefix_m ⟨45 :: D⟩ ⟨[45]⟩ = some (⟨D⟩, true) := by
  unfold strings_CutPrefix_m stringslite_CutPrefix_m stringslite_HasPrefix_m
  have h1 : strSub ⟨45 :: D⟩ 0 ((([45] : List UInt8).length : Nat) : Int) = some ⟨[45]⟩ := sub_pre [45] D
  have h2 : strSub ⟨45 :: D⟩ ((([45] : List UInt8).length : Nat) : Int) (((45 :: D).length : Nat) : Int) = some ⟨D⟩ := sub_suf [45] D
  have e : decide (((([45] : List UInt8).length : Nat) : Int) ≤ (((45 :: D).length : Nat) : Int)) = true := by simp; omega
  simp only
  rw [h1, h2, e, whn_t rfl, Option.bind_some, Option.bind_some]
  simp
theorem cutp_pos (c : UInt8) (D : List UInt8) (hc : c.toNat ≠ 45) : strings_CutPrefix_m ⟨c :: D⟩ ⟨[45]⟩ = some (⟨c :: D⟩, false) := by
  unfold strings_CutPrefix_m stringslite_CutPrefix_m stringslite_HasPrefix_m
  have h1 : strSub ⟨c :: D⟩ 0 ((([45] : List UInt8).length : Nat) : Int) = some ⟨[c]⟩ := sub_pre [c] D
  have e : decide (((([45] : List UInt8).length : Nat) : Int) ≤ (((c :: D).length : Nat) : Int)) = true := by simp; omega
  have hne : ¬ c = 45 := fun h => hc (by rw [h]; rfl)
  simp only
  rw [h1, e, whn_t rfl, Option.bind_some, Option.bind_some]
  simp [hne]
theorem dig_wrap (c : UInt8) (h : digB c = true) : IntKind.i64.wrap (IntKind.u8.wrap ((c.toNat : Int) - 48)) = ((c.toNat - 48 : Nat) : Int) := by
  have key : ∀ k : Fin 10, IntKind.i64.wrap (IntKind.u8.wrap (((48 + k.val : Nat) : Int) - 48)) = (k.val : Int) := by decide +kernel
  unfold digB at h
  simp only [Bool.and_eq_true, decide_eq_true_eq] at h
  have := key ⟨c.toNat - 48, by omega⟩
  simp only at this
  rwa [show 48 + (c.toNat - 48) = c.toNat by omega] at this
end Go.Proofs.YtohhihdjdelckaaDoor

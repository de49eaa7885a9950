/- Plain laws of words: awake, pieces, sameLines, names. -/
import Derived.Test.YtfbpbmnlbcnanaaDoorVb
import Derived.Test.YtfbpbmnlbcnanaaDoorWg
import Derived.Test.YtfbpbmnlbcnanaaDoorWh
set_option linter.all false
namespace Go.Proofs.YtfbpbmnlbcnanaaDoor
open Go.Dc

theorem awake3 : law3_awake_m = some true := by decide +kernel

def pieceTab : List Str := [(⟨[97]⟩ : Str), (⟨[98, 57]⟩ : Str), (⟨[45]⟩ : Str), (⟨[48]⟩ : Str), (⟨[49, 50]⟩ : Str), (⟨[32]⟩ : Str), (⟨[9]⟩ : Str), (⟨[10]⟩ : Str), (⟨[35]⟩ : Str), (⟨[46, 46]⟩ : Str), (⟨[95]⟩ : Str), (⟨[49, 48, 57, 57, 53, 49, 49, 54, 50, 55, 55, 55, 54]⟩ : Str), (⟨[49, 48, 57, 57, 53, 49, 49, 54, 50, 55, 55, 55, 55]⟩ : Str), (⟨[13]⟩ : Str), (⟨[127]⟩ : Str), (⟨[126]⟩ : Str), (⟨[32, 32]⟩ : Str), (⟨[195, 169]⟩ : Str), (⟨[57, 46, 46, 55]⟩ : Str), (⟨[45, 51, 46, 46, 52]⟩ : Str)]
theorem pieceTab_at (x : UInt8) : ∃ t, idx pieceTab ((IntKind.i64.wrap (x.toNat : Int)).tmod (pieceTab.length : Int)) = some t ∧ t.l.length ≤ 13 := by
  have key : ∀ k : Fin 256, (idx pieceTab ((IntKind.i64.wrap (k.val : Int)).tmod (pieceTab.length : Int))).any (fun t => decide (t.l.length ≤ 13)) = true := by decide +kernel
  have := key ⟨x.toNat, x.toNat_lt⟩
  simp only at this
  cases h : idx pieceTab ((IntKind.i64.wrap (x.toNat : Int)).tmod (pieceTab.length : Int)) with
  | none => rw [h] at this; simp at this
  | some t => rw [h] at this; exact ⟨t, rfl, by simpa using this⟩
theorem pieces_m (l : List UInt8) : ∃ q, law3_pieces_m l = some q ∧ q.l.length ≤ 1100 := by
  have hb : ∀ (c : Str × Nat → Option Str) (s : Str) (i : Nat), law3_pieces_b1 l c (s, i) = if (decide ((i : Int) < (l.length : Int)) && decide ((i : Int) < 80)) then
    ((idx l (i : Int)).bind fun x3 =>
    chk (decide ((pieceTab.length : Int) ≠ 0)) <|
    (idx pieceTab ((IntKind.i64.wrap (x3.toNat : Int)).tmod (pieceTab.length : Int))).bind fun x6 =>
    (strCat s x6).bind fun q8 =>
    chk (i64b ((i : Int) + 1)) <|
    c (q8, i + 1)) else some s := fun _ _ _ => rfl
  unfold law3_pieces_m
  have key : ∀ (n i : Nat) (s : Str), s.l.length ≤ 13 * i → i ≤ 80 → 80 - i < n → ∃ q, iter (law3_pieces_b1 l) n (s, i) = some q ∧ q.l.length ≤ 1100 := by
    intro n
    induction n with
    | zero => intro i s _ _ h; omega
    | succ n ih =>
      intro i s hs hi hn
      show ∃ q, law3_pieces_b1 l (iter (law3_pieces_b1 l) n) (s, i) = some q ∧ _
      rw [hb]
      by_cases h : (decide ((i : Int) < (l.length : Int)) && decide ((i : Int) < 80)) = true
      · rw [if_pos h]
        simp only [Bool.and_eq_true, decide_eq_true_eq] at h
        have hg : idx l (i : Int) = some (l[i]'(by omega)) := by rw [idx_nat]; exact List.getElem?_eq_getElem (by omega)
        obtain ⟨t, ht, htl⟩ := pieceTab_at (l[i]'(by omega))
        rw [hg, Option.bind_some, chk_true (by decide), ht, Option.bind_some]
        have hc : strCat s t = some ⟨s.l ++ t.l⟩ := by unfold strCat; rw [if_pos (by omega)]
        rw [hc, Option.bind_some, chk_true (i64b_of (by omega) (by omega))]
        exact ih (i + 1) ⟨s.l ++ t.l⟩ (by simp; omega) (by omega) (by omega)
      · rw [if_neg h]
        exact ⟨s, rfl, by omega⟩
  exact key FUEL 0 ⟨[]⟩ (by simp) (by omega) (fuel_of (by omega))

/-! ### Names -/
end Go.Proofs.YtfbpbmnlbcnanaaDoor

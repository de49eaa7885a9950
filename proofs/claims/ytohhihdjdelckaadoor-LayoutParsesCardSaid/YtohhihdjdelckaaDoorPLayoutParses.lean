/- LayoutParses, the plain law. -/
import Derived.Test.YtohhihdjdelckaaDoorFm
import Derived.Test.YtohhihdjdelckaaDoorOpens
import Derived.Test.YtohhihdjdelckaaDoorWLayoutParses
namespace Go.Proofs.YtohhihdjdelckaaDoor
open Go.Dc
set_option maxRecDepth 10000
def partTab : List Str := [(⟨[115, 116, 97, 116, 105, 111, 110]⟩ : Str), (⟨[112, 111, 105, 110, 116]⟩ : Str), (⟨[115, 101, 99, 116, 105, 111, 110]⟩ : Str), (⟨[108, 105, 110, 107]⟩ : Str), (⟨[97, 116]⟩ : Str), (⟨[65]⟩ : Str), (⟨[66]⟩ : Str), (⟨[88]⟩ : Str), (⟨[89]⟩ : Str), (⟨[87]⟩ : Str), (⟨[83, 48]⟩ : Str), (⟨[48]⟩ : Str), (⟨[49]⟩ : Str), (⟨[50, 48]⟩ : Str), (⟨[57, 48, 48, 48]⟩ : Str), (⟨[45, 51]⟩ : Str), (⟨[10]⟩ : Str), (⟨[10]⟩ : Str), (⟨[10]⟩ : Str), (⟨[35]⟩ : Str)]
theorem partTab_at (x : UInt8) : ∃ t, idx partTab ((IntKind.i64.wrap (x.toNat : Int)).tmod (partTab.length : Int)) = some t ∧ t.l.length ≤ 13 := by
  have key : ∀ k : Fin 256, (idx partTab ((IntKind.i64.wrap (k.val : Int)).tmod (partTab.length : Int))).any (fun t => decide (t.l.length ≤ 13)) = true := by decide +kernel
  have := key ⟨x.toNat, x.toNat_lt⟩
  simp only at this
  cases h : idx partTab ((IntKind.i64.wrap (x.toNat : Int)).tmod (partTab.length : Int)) with
  | none => rw [h] at this; simp at this
  | some t => rw [h] at this; exact ⟨t, rfl, by simpa using this⟩
theorem layoutParses_plain (s : Str) (l : List UInt8) (_ : Wf.wf s) (_ : Wf.wf l) : law4_LayoutParses_m s l = some true := by
  have hb : ∀ (c : Str × Nat → Option Bool) (t : Str) (i : Nat), law4_LayoutParses_b1 l s c (t, i) = if (decide ((i : Int) < (l.length : Int)) && decide ((i : Int) < 80)) then
    ((idx l (i : Int)).bind fun x3 =>
    chk (decide ((partTab.length : Int) ≠ 0)) <|
    (idx partTab ((IntKind.i64.wrap (x3.toNat : Int)).tmod (partTab.length : Int))).bind fun x6 =>
    (strCat x6 (⟨[32]⟩ : Str)).bind fun q8 =>
    (strCat t q8).bind fun q10 =>
    chk (i64b ((i : Int) + 1)) <|
    c (q10, i + 1)) else law4_LayoutParses_k1 s t () := fun _ _ _ => rfl
  unfold law4_LayoutParses_m
  have key : ∀ (n i : Nat) (t : Str), t.l.length ≤ 14 * i → i ≤ 80 → 80 - i < n → iter (law4_LayoutParses_b1 l s) n (t, i) = some true := by
    intro n
    induction n with
    | zero => intro i t _ _ h; omega
    | succ n ih =>
      intro i t hs hi hn
      show law4_LayoutParses_b1 l s (iter (law4_LayoutParses_b1 l s) n) (t, i) = _
      rw [hb]
      by_cases h : (decide ((i : Int) < (l.length : Int)) && decide ((i : Int) < 80)) = true
      · rw [if_pos h]
        simp only [Bool.and_eq_true, decide_eq_true_eq] at h
        have hg : idx l (i : Int) = some (l[i]'(by omega)) := by rw [idx_nat]; exact List.getElem?_eq_getElem (by omega)
        obtain ⟨u, hu, hul⟩ := partTab_at (l[i]'(by omega))
        refine bindE hg ((chk_true (by decide)).trans (bindE hu (bindE (cat_s u _ (by simp; omega)) (bindE (cat_s t _ (by simp; omega)) ((chk_true (i64b_of (by omega) (by omega))).trans ?_)))))
        exact ih (i + 1) _ (by simp; omega) (by omega) (by omega)
      · rw [if_neg h]
        unfold law4_LayoutParses_k1
        refine bindE awake4 ?_
        rw [whn_t rfl, parses_m, Option.bind_some]
        exact bindE ((whn_t rfl).trans (parses_m t)) rfl
  exact key FUEL 0 ⟨[]⟩ (by simp) (by omega) (fuel_of (by omega))
end Go.Proofs.YtohhihdjdelckaaDoor

/- Plain laws of words: awake, pieces, sameLines, names. -/
import Derived.Test.YtfbpbmnlbcnanaaDoorVb
import Derived.Test.YtfbpbmnlbcnanaaDoorWg
import Derived.Test.YtfbpbmnlbcnanaaDoorWh
namespace Go.Proofs.YtfbpbmnlbcnanaaDoor
open Go.Dc

theorem awake3 : law3_awake_m = some true := by decide +kernel

def pieceTab : List Str := [(⟨[97]⟩ : Str), (⟨[98, 57]⟩ : Str), (⟨[45]⟩ : Str), (⟨[48]⟩ : Str), (⟨[49, 50]⟩ : Str), (⟨[32]⟩ : Str), (⟨[9]⟩ : Str), (⟨[10]⟩ : Str), (⟨[35]⟩ : Str), (⟨[46, 46]⟩ : Str), (⟨[95]⟩ : Str), (⟨[49, 48, 57, 57, 53, 49, 49, 54, 50, 55, 55, 55, 54]⟩ : Str), (⟨[49, 48, 57, 57, 53, 49, 49, 54, 50, 55, 55, 55, 55]⟩ : Str), (⟨[13]⟩ : Str), (⟨[127]⟩ : Str), (⟨[126]⟩ : Str), (⟨[32, 32]⟩ : Str), (⟨[195, 169]⟩ : Str), (⟨[57, 46, 46, 55]⟩ : Str), (⟨[45, 51, 46, 46, 52]⟩ : Str)]
theorem pieceTab_at (x : UInt8) : ∃ t, idx pieceTab ((IntKind.i64.wrap (x.toNat : Int)).tmod (pieceTab.length : Int)) = some t ∧ t.l.length ≤ 13 := by
  have key : ∀ k : Fin 256, (idx pieceTab ((IntKind.i64.wrap (k.val : Int)).tmod (pieceTab.length : Int))).any (fun t => decide (t.l.length ≤ 13)) = true := by decide +kernel
  have := key ⟨x.toNat, x.toNat_lt⟩
  simp only at this
  cases h : idx pieceTab ((IntKind.i64.wrap (x.toNat : Int)).tmod (pieceTab.length : Int)) with
  | none => rw [h] at this; simp at this
  | some t => rw [h] at this; exact ⟨t, rfl, by simpa using this⟩
theorem pieces_m (l : List UInt8) : ∃ q, law3_pieces_m l = some q ∧ q.l.length ≤ 1100 := by
  have hb : ∀ (c : Str × Nat → Option Str) (s : Str) (i : Nat), law3_pieces_b1 l c (s, i) = if (decide ((i : Int) < (l.length : Int)) && decide ((i : Int) < 80)) then
    ((idx l (i : Int)).bind fun x3 =>
    chk (decide ((pieceTab.length : Int) ≠ 0)) <|
    (idx pieceTab ((IntKind.i64.wrap (x3.toNat : Int)).tmod (pieceTab.length : Int))).bind fun x6 =>
    (strCat s x6).bind fun q8 =>
    chk (i64b ((i : Int) + 1)) <|
    c (q8, i + 1)) else some s := fun _ _ _ => rfl
  unfold law3_pieces_m
  have key : ∀ (n i : Nat) (s : Str), s.l.length ≤ 13 * i → i ≤ 80 → 80 - i < n → ∃ q, iter (law3_pieces_b1 l) n (s, i) = some q ∧ q.l.length ≤ 1100 := by
    intro n
    induction n with
    | zero => intro i s _ _ h; omega
    | succ n ih =>
      intro i s hs hi hn
      show ∃ q, law3_pieces_b1 l (iter (law3_pieces_b1 l) n) (s, i) = some q ∧ _
      rw [hb]
      by_cases h : (decide ((i : Int) < (l.length : Int)) && decide ((i : Int) < 80)) = true
      · rw [if_pos h]
        simp only [Bool.and_eq_true, decide_eq_true_eq] at h
        have hg : idx l (i : Int) = some (l[i]'(by omega)) := by rw [idx_nat]; exact List.getElem?_eq_getElem (by omega)
        obtain ⟨t, ht, htl⟩ := pieceTab_at (l[i]'(by omega))
        rw [hg, Option.bind_some, chk_true (by decide), ht, Option.bind_some]
        have hc : strCat s t = some ⟨s.l ++ t.l⟩ := by unfold strCat; rw [if_pos (by omega)]
        rw [hc, Option.bind_some, chk_true (i64b_of (by omega) (by omega))]
        exact ih (i + 1) ⟨s.l ++ t.l⟩ (by simp; omega) (by omega) (by omega)
      · rw [if_neg h]
        exact ⟨s, rfl, by omega⟩
  exact key FUEL 0 ⟨[]⟩ (by simp) (by omega) (fuel_of (by omega))

/-! ### Names -/
def letB (x : UInt8) : Bool := (decide (65 ≤ x.toNat) && decide (x.toNat ≤ 90)) || (decide (97 ≤ x.toNat) && decide (x.toNat ≤ 122))
def digB (x : UInt8) : Bool := decide (48 ≤ x.toNat) && decide (x.toNat ≤ 57)
def nmB (x : UInt8) : Bool := letB x || digB x || decide (x.toNat = 95)
theorem isLetter_m (x : UInt8) : words_isLetter_m (x.toNat : Int) = some (letB x) := by
  have key : ∀ k : Fin 256, words_isLetter_m (k.val : Int) = some ((decide (65 ≤ k.val) && decide (k.val ≤ 90)) || (decide (97 ≤ k.val) && decide (k.val ≤ 122))) := by decide +kernel
  exact key ⟨x.toNat, x.toNat_lt⟩
theorem isDigit_m (x : UInt8) : words_isDigit_m (x.toNat : Int) = some (digB x) := by
  have key : ∀ k : Fin 256, words_isDigit_m (k.val : Int) = some (decide (48 ≤ k.val) && decide (k.val ≤ 57)) := by decide +kernel
  exact key ⟨x.toNat, x.toNat_lt⟩
theorem letter_m (x : UInt8) : ref1_letter_m (x.toNat : Int) = some (letB x) := by
  have key : ∀ k : Fin 256, ref1_letter_m (k.val : Int) = some ((decide (65 ≤ k.val) && decide (k.val ≤ 90)) || (decide (97 ≤ k.val) && decide (k.val ≤ 122))) := by decide +kernel
  exact key ⟨x.toNat, x.toNat_lt⟩
def nameR (l : List UInt8) : Bool := match l with | [] => false | x :: r => decide (r.length ≤ 11) && letB x && r.all nmB
theorem nm_step (x : UInt8) (s : Str) (i : Nat) (hx : s.l[i]? = some x) (K : Option Bool) :
    ((whn (!letB x) 0 (byteAt s (i : Int))).bind fun c12 =>
      (whn (!letB x) default (words_isDigit_m c12)).bind fun y14 =>
      (whn ((!letB x) && (!y14)) 0 (byteAt s (i : Int))).bind fun c16 =>
      if (((!letB x) && (!y14)) && decide (c16 ≠ 95)) then some false else K) = if nmB x then K else some false := by
  unfold nmB
  cases h1 : letB x with
  | true => simp [whn_f]
  | false =>
    simp only [Bool.not_false, Bool.true_and, Bool.false_or]
    rw [whn_t rfl, byteAt_get hx, Option.bind_some, whn_t rfl, isDigit_m, Option.bind_some]
    cases h2 : digB x with
    | true => simp [whn_f]
    | false =>
      simp only [Bool.not_false, Bool.true_and, Bool.false_or]
      rw [whn_t rfl, Option.bind_some]
      by_cases h3 : x.toNat = 95
      · rw [if_neg (by simp; omega), if_pos (by simp; omega)]
      · rw [if_pos (by simp; omega), if_neg (by simp; omega)]
theorem name_m (s : Str) : words_Name_m s = some (nameR s.l) := by
  obtain ⟨l⟩ := s
  unfold words_Name_m
  simp only
  cases l with
  | nil => rfl
  | cons x r =>
    by_cases hr : r.length ≤ 11
    · have e : (decide (((x :: r).length : Int) < 1) || decide (12 < ((x :: r).length : Int))) = false := by simp; omega
      rw [e, Bool.not_false]
      have hx0 : (⟨x :: r⟩ : Str).l[0]? = some x := rfl
      have hb0 : byteAt ⟨x :: r⟩ 0 = some (x.toNat : Int) := byteAt_get (i := 0) hx0
      rw [whn_t rfl, hb0, Option.bind_some, whn_t rfl, isLetter_m, Option.bind_some]
      cases hl : letB x with
      | false => simp [nameR, hl]
      | true =>
        rw [if_neg (by simp), chk_true (by simp; omega)]
        have := iter_list (B := words_Name_b1 ⟨x :: r⟩) (fun (_ : Unit) i => i) (x :: r) (fun _ _ => True) (fun _ r' => some (r'.all nmB)) ?_ ?_ FUEL () 0 trivial (by omega) (fuel_of (by simp; omega))
        · rw [this]
          simp [nameR, hl, hr, nmB]
        · intro c _ i y r' _ hdr hi hy hk
          have hyi := idx_get hy
          simp only [words_Name_b1]
          rw [if_pos (by simp at hi ⊢; omega), byteAt_get (s := ⟨x :: r⟩) hyi, Option.bind_some, isLetter_m, Option.bind_some]
          have := nm_step y ⟨x :: r⟩ i hyi (c (i + 1))
          rw [byteAt_get (s := ⟨x :: r⟩) hyi] at this
          rw [this, hk () trivial]
          cases h : nmB y <;> simp [h]
        · intro c _ _
          simp only [words_Name_b1]
          rw [if_neg (by simp)]
          rfl
    · have e : (decide (((x :: r).length : Int) < 1) || decide (12 < ((x :: r).length : Int))) = true := by simp; omega
      rw [e, Bool.not_true, whn_f rfl, Option.bind_some, whn_f rfl, Option.bind_some]
      have : decide (r.length ≤ 11) = false := by simp; omega
      simp [nameR, this]
theorem rname_m (s : Str) : ref1_Name_m s = some (nameR s.l) := by
  obtain ⟨l⟩ := s
  unfold ref1_Name_m
  simp only
  cases l with
  | nil => rfl
  | cons x r =>
    by_cases hr : r.length ≤ 11
    · have e : (decide (((x :: r).length : Int) < 1) || decide (12 < ((x :: r).length : Int))) = false := by simp; omega
      rw [e, Bool.not_false]
      have hx0 : (⟨x :: r⟩ : Str).l[0]? = some x := rfl
      have hb0 : byteAt ⟨x :: r⟩ 0 = some (x.toNat : Int) := byteAt_get (i := 0) hx0
      rw [whn_t rfl, hb0, Option.bind_some, whn_t rfl, letter_m, Option.bind_some]
      cases hl : letB x with
      | false => simp [nameR, hl]
      | true =>
        rw [if_neg (by simp)]
        have := iter_list (B := ref1_Name_b1 ⟨x :: r⟩) (fun (_ : Unit) i => i) (x :: r) (fun _ _ => True) (fun _ r' => some (r'.all nmB)) ?_ ?_ FUEL () 1 trivial (by simp) (fuel_of (by simp; omega))
        · rw [this]
          simp [nameR, hl, hr]
        · intro c _ i y r' _ hdr hi hy hk
          have hyi := idx_get hy
          simp only [ref1_Name_b1]
          rw [if_pos (by simp at hi ⊢; omega), byteAt_get (s := ⟨x :: r⟩) hyi, Option.bind_some, letter_m, Option.bind_some]
          have e2 : i64b ((i : Int) + 1) = true := i64b_of (by omega) (by simp at hi; omega)
          rw [chk_true e2]
          have := nm_step y ⟨x :: r⟩ i hyi (c (i + 1))
          have e3 : ref1_digit_m = words_isDigit_m := rfl
          rw [e3]
          rw [byteAt_get (s := ⟨x :: r⟩) hyi] at this
          rw [this, hk () trivial]
          cases h : nmB y <;> simp [h]
        · intro c _ _
          simp only [ref1_Name_b1]
          rw [if_neg (by simp)]
          rfl
    · have e : (decide (((x :: r).length : Int) < 1) || decide (12 < ((x :: r).length : Int))) = true := by simp; omega
      rw [e, Bool.not_true, whn_f rfl, Option.bind_some, whn_f rfl, Option.bind_some]
      have : decide (r.length ≤ 11) = false := by simp; omega
      simp [nameR, this]
end Go.Proofs.YtfbpbmnlbcnanaaDoor

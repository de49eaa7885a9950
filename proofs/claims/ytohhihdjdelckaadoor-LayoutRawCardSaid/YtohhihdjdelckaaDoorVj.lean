/- Words laws: Join, by a plain function. -/
import Derived.Test.YtohhihdjdelckaaDoorVb
import Derived.Test.YtohhihdjdelckaaDoorWk
set_option linter.all false
namespace Go.Proofs.YtohhihdjdelckaaDoor
open Go.Dc
set_option maxRecDepth 10000

def wordB (s : Str) : Bool := decide (s.l ≠ []) && s.l.all plainB
/-- The words of a line with a space between; f: whether it begins here. -/
def wlF : Bool → List Str → List UInt8
  | _, [] => []
  | f, s :: r => (if f then [] else [32]) ++ s.l ++ wlF false r
def joinL : List (List Str) → List UInt8 → Option (List UInt8)
  | [], acc => some acc
  | w :: r, acc => if (decide ((w.length : Int) = 0) || decide (64 < (w.length : Int))) then none else if w.all wordB then joinL r (acc ++ wlF true w ++ [10]) else none
def joinS (o : Option (List UInt8)) : Str := match o with | none => ⟨[]⟩ | some t => ⟨t⟩
def szW (w : List Str) : Nat := (w.map (fun s => s.l.length + 1)).sum
def szL (l : List (List Str)) : Nat := (l.map (fun w => szW w + 1)).sum
theorem szW_cons (s : Str) (w : List Str) : szW (s :: w) = s.l.length + 1 + szW w := by simp [szW]
theorem szL_cons (w : List Str) (l : List (List Str)) : szL (w :: l) = szW w + 1 + szL l := by simp [szL]
theorem szW_len (w : List Str) : w.length ≤ szW w := by
  induction w with
  | nil => simp
  | cons s w ih => rw [szW_cons]; simp only [List.length_cons]; omega
theorem szL_len (l : List (List Str)) : l.length ≤ szL l := by
  induction l with
  | nil => simp
  | cons s w ih => rw [szL_cons]; simp only [List.length_cons]; omega
theorem wlF_len (f : Bool) (w : List Str) : (wlF f w).length ≤ szW w := by
  induction w generalizing f with
  | nil => simp [wlF]
  | cons s w ih =>
    rw [szW_cons]
    have := ih false
    simp only [wlF, List.length_append]
    cases f <;> simp <;> omega
theorem class_part (c : UInt8) : ∃ k : Int, words_class_m (c.toNat : Int) = some k ∧ (decide (k ≠ 4) = !plainB c) := by
  refine ⟨_, class_m c, ?_⟩
  unfold plainB
  by_cases h1 : isBlank c
  · have : isPart c = false := by unfold isBlank at h1; unfold isPart; simp at h1 ⊢; omega
    simp [h1, this]
  · by_cases h2 : c.toNat = 10
    · have : isPart c = false := by unfold isPart; simp; omega
      simp [h1, h2, this]
    · by_cases h3 : c.toNat = 35
      · simp [h1, h3]
      · by_cases h4 : isPart c
        · simp [h1, h2, h3, h4]
        · simp [h1, h2, h3, h4]

theorem isWord_m (s : Str) (hl : s.l.length ≤ 1000000000000) : words_isWord_m s = some (wordB s) := by
  obtain ⟨l⟩ := s
  simp only at hl
  unfold words_isWord_m
  rw [chk_true (by simp only [decide_eq_true_eq]; omega)]
  have := iter_list (B := words_isWord_b1 ⟨l⟩) (fun (_ : Unit) i => i) l (fun _ _ => True) (fun _ r => some (decide (l ≠ []) && r.all plainB)) ?_ ?_ FUEL () 0 trivial (by omega) (fuel_of (by omega))
  · rw [this]; rfl
  · intro c _ i x r _ hdr hi hx hk
    have hxi := idx_get hx
    obtain ⟨k, hk1, hk2⟩ := class_part x
    simp only [words_isWord_b1]
    rw [if_pos (by simp <;> omega), byteAt_get (s := ⟨l⟩) hxi, Option.bind_some, hk1, Option.bind_some, hk2, hk () trivial]
    cases hp : plainB x <;> simp [hp]
  · intro c _ _
    simp only [words_isWord_b1]
    rw [if_neg (by simp)]
    unfold words_isWord_k1
    simp

theorem drop_succ {α : Type} {l r : List α} {x : α} {i : Nat} (h : l.drop i = x :: r) : l.drop (i + 1) = r := by
  rw [← List.drop_drop, h]; rfl

theorem join_line (w : List Str) (cont : (List UInt8 × Nat) → Option Str) (t : Nat) (acc : List UInt8) (hl : acc.length + szW w ≤ 1000000000000) :
    iter (words_Join_b2 w cont t) FUEL (acc, 0) = if w.all wordB then words_Join_k3 (acc ++ wlF true w) cont t () else some ⟨[]⟩ := by
  have hwl := szW_len w
  have := iter_list (B := words_Join_b2 w cont t) (fun (q : List UInt8 × Bool) i => (q.1, i)) w (fun q i => q.2 = decide (i = 0) ∧ q.1.length + szW (w.drop i) ≤ 1000000000000)
    (fun q r => if r.all wordB then words_Join_k3 (q.1 ++ wlF q.2 r) cont t () else some ⟨[]⟩) ?_ ?_ FUEL (acc, true) 0 (by simpa using hl) (by omega) (fuel_of (by omega))
  · simpa using this
  · rintro c ⟨q, f⟩ i x r ⟨hf, hq⟩ hdr hi hx hk
    simp only at hf hq ⊢
    have hr : w.drop (i + 1) = r := drop_succ hdr
    rw [hdr, szW_cons] at hq
    simp only [words_Join_b2]
    rw [if_pos (by simp <;> omega), hx, Option.bind_some, isWord_m _ (by omega), Option.bind_some]
    cases hw : wordB x with
    | false => simp [hw]
    | true =>
      rw [if_neg (by simp)]
      have e : (x :: r).all wordB = r.all wordB := by simp [hw]
      rw [e]
      subst hf
      by_cases h0 : i = 0
      · subst h0
        rw [if_neg (by simp)]
        unfold words_Join_k4
        rw [chk_true (by simp only [decide_eq_true_eq]; omega)]
        have := hk (q ++ x.l, false) ⟨by simp, by rw [hr]; simp only [List.length_append]; omega⟩
        simp only at this
        rw [this]
        simp [wlF]
      · rw [if_pos (by simp <;> omega), chk_true (by simp only [decide_eq_true_eq]; omega)]
        unfold words_Join_k4
        rw [chk_true (by simp only [decide_eq_true_eq, List.length_append, List.length_singleton]; omega)]
        have := hk (q ++ [u8 32] ++ x.l, false) ⟨by simp, by rw [hr]; simp only [List.length_append, List.length_singleton]; omega⟩
        simp only at this
        rw [this]
        have e32 : u8 32 = 32 := by decide
        simp [wlF, h0, e32]
  · rintro c ⟨q, f⟩ ⟨hf, hq⟩
    simp only [words_Join_b2]
    rw [if_neg (by simp)]
    simp [wlF]

theorem join_m (l : List (List Str)) (hl : szL l ≤ 100000000000) : words_Join_m l = some (joinS (joinL l [])) := by
  unfold words_Join_m
  have hll := szL_len l
  have := iter_list (B := words_Join_b1 l) (fun (q : List UInt8) i => (q, i)) l (fun q i => q.length + szL (l.drop i) ≤ 100000000000)
    (fun q r => some (joinS (joinL r q))) ?_ ?_ FUEL [] 0 (by simpa using hl) (by omega) (fuel_of (by omega))
  · simpa using this
  · intro c q i x r hq hdr hi hx hk
    have hr : l.drop (i + 1) = r := drop_succ hdr
    rw [hdr, szL_cons] at hq
    simp only [words_Join_b1]
    rw [if_pos (by simp <;> omega), hx, Option.bind_some]
    unfold joinL
    by_cases h : (decide ((x.length : Int) = 0) || decide (64 < (x.length : Int))) = true
    · rw [if_pos h, if_pos h]; rfl
    · rw [if_neg h, if_neg h, join_line x _ _ _ (by omega)]
      cases hw : x.all wordB with
      | false => rw [if_neg (by simp), if_neg (by simp)]; rfl
      | true =>
        rw [if_pos rfl, if_pos rfl]
        have hlen := wlF_len true x
        unfold words_Join_k3 words_Join_k2
        rw [chk_true (by simp only [decide_eq_true_eq, List.length_append]; omega)]
        have e10 : u8 10 = 10 := by decide
        rw [e10]
        exact hk _ (by rw [hr]; simp only [List.length_append, List.length_singleton]; omega)
  · intro c q hq
    simp only [words_Join_b1]
    rw [if_neg (by simp)]
    rfl

theorem cat_m (a b : List UInt8) (h : a.length + b.length ≤ 100000000000000) : strCat ⟨a⟩ ⟨b⟩ = some ⟨a ++ b⟩ := by
  unfold strCat
  rw [if_pos (by simp only; omega)]

end Go.Proofs.YtohhihdjdelckaaDoor

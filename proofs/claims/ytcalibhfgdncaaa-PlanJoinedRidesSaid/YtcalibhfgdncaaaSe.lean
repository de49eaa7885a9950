/- Plain laws of plans, the kit: loops that look for the first error. -/
import Derived.Test.YtcalibhfgdncaaaQ1
set_option linter.all false
namespace Go.Dc
def errs (g : Nat → Option Int) (k : Option Int) : Nat → Nat → Option Int
 | 0, _ => k
 | m + 1, i => (g i).bind fun e => if decide (e ≠ 0) then some e else errs g k m (i + 1)
theorem ab6 {B : (Nat → Option Int) → Nat → Option Int} {n : Nat} {g : Nat → Option Int} {k : Option Int}
  (hs : ∀ c i, i < n → B c i = (g i).bind fun e => if decide (e ≠ 0) then some e else c (i + 1)) (he : ∀ c, B c n = k) :
  ∀ m i f, i + m = n → m < f → iter B f i = errs g k m i := by
 intro m
 induction m with
 | zero =>
  intro i f hi hf
  obtain ⟨f, rfl⟩ : ∃ x, f = x + 1 := ⟨f - 1, by omega⟩
  show B (iter B f) i = k
  rw [show i = n by omega, he]
 | succ m ih =>
  intro i f hi hf
  obtain ⟨f, rfl⟩ : ∃ x, f = x + 1 := ⟨f - 1, by omega⟩
  show B (iter B f) i = _
  rw [hs _ _ (by omega), ih (i + 1) f (by omega) (by omega)]
  rfl
theorem yZ {B : (Nat → Option Int) → Nat → Option Int} (n : Nat) (g : Nat → Option Int) (k : Option Int)
  (hs : ∀ c i, i < n → B c i = (g i).bind fun e => if decide (e ≠ 0) then some e else c (i + 1)) (he : ∀ c, B c n = k) (hn : n ≤ 1000000000000000) :
  iter B FUEL 0 = errs g k n 0 := ab6 hs he n 0 FUEL (by omega) (lJ (by omega))
theorem zY (g : Nat → Option Int) (K : Option Int) : ∀ m i, ((errs g (some 0) m i).bind fun e => if decide (e ≠ 0) then some e else K) = errs g K m i := by
 intro m
 induction m with
 | zero => intro i; rfl
 | succ m ih =>
  intro i
  simp only [errs]
  cases h : g i with
  | none => rfl
  | some e =>
   simp only [Option.bind_some]
   by_cases he : e = 0
   ·rw [if_neg (by simp [he]), if_neg (by simp [he]), ih]
   ·rw [if_pos (by simp [he]), if_pos (by simp [he]), Option.bind_some, if_pos (by simp [he])]
theorem BJ {g g' : Nat → Option Int} {k k' : Option Int} : ∀ m i, (∀ j, i ≤ j → j < i + m → (∀ j', i ≤ j' → j' < j → g j' = some 0) → g j = g' j) →
  ((∀ j, i ≤ j → j < i + m → g j = some 0) → k = k') → errs g k m i = errs g' k' m i := by
 intro m
 induction m with
 | zero => intro i _ hk; exact hk (fun j _ _ => by omega)
 | succ m ih =>
  intro i hg hk
  simp only [errs]
  rw [← hg i (Nat.le_refl _) (by omega) (fun j _ _ => by omega)]
  cases h : g i with
  | none => rfl
  | some e =>
   simp only [Option.bind_some]
   by_cases he : e = 0
   ·subst he
    rw [if_neg (by simp), if_neg (by simp)]
    refine ih (i + 1) (fun j h1 h2 h3 => hg j (by omega) (by omega) fun j' a b => ?_) (fun h3 => hk fun j' a b => ?_)
    ·by_cases e : j' = i
     ·subst e; exact h
     ·exact h3 j' (by omega) b
    ·by_cases e : j' = i
     ·subst e; exact h
     ·exact h3 j' (by omega) (by omega)
   ·rw [if_pos (by simp [he]), if_pos (by simp [he])]
theorem DJ {g : Nat → Option Int} {k : Option Int} : ∀ m i, errs g k m i = some 0 → (∀ j, i ≤ j → j < i + m → g j = some 0) ∧ k = some 0 := by
 intro m
 induction m with
 | zero => intro i h; exact ⟨fun j _ _ => by omega, h⟩
 | succ m ih =>
  intro i h
  simp only [errs] at h
  cases hg : g i with
  | none => rw [hg] at h; cases h
  | some e =>
   rw [hg, Option.bind_some] at h
   by_cases he : e = 0
   ·subst he
    rw [if_neg (by simp)] at h
    obtain ⟨h1, h2⟩ := ih (i + 1) h
    refine ⟨fun j a b => ?_, h2⟩
    by_cases e : j = i
    ·subst e; exact hg
    ·exact h1 j (by omega) (by omega)
   ·rw [if_pos (by simp [he])] at h
    cases h; exact absurd rfl he
theorem Rc {α : Type} (g : Bool) (d v : α) : fP g d (some v) = some (if g then v else d) := by cases g <;> rfl
theorem abZ {α : Type} {B : (Nat → Option Int) → Nat → Option Int} (xs : List α) (q : α → Bool)
  (hs : ∀ c (i : Nat) x, idx xs (i : Int) = some x → i < xs.length → B c i = if q x then some (i : Int) else c (i + 1)) (he : ∀ c, B c xs.length = some (-1)) :
  ∀ n i, i ≤ xs.length → xs.length - i < n → ((iter B n i).bind fun y => some (decide (0 ≤ y))) = some ((xs.drop i).any q) := by
 intro n
 induction n with
 | zero => intro i _ h; omega
 | succ n ih =>
  intro i hi hn
  show ((B (iter B n) i).bind _) = _
  by_cases hl : i = xs.length
  ·subst hl
   rw [he, List.drop_length]; rfl
  ·have hlt : i < xs.length := by omega
   have hd : xs.drop i = xs[i] :: xs.drop (i + 1) := List.drop_eq_getElem_cons hlt
   rw [hs _ i xs[i] (by simp [idx, hlt]) hlt, hd, List.any_cons]
   cases h : q xs[i] with
   | true => simp
   | false => rw [if_neg (by simp), ih (i + 1) (by omega) (by omega)]; simp
theorem O1 {α : Type} {B : (Nat → Option Int) → Nat → Option Int} (xs : List α) (q : α → Bool)
  (hs : ∀ c (i : Nat) x, idx xs (i : Int) = some x → i < xs.length → B c i = if q x then some (i : Int) else c (i + 1)) (he : ∀ c, B c xs.length = some (-1))
  (hl : xs.length ≤ 1000000) : ((iter B FUEL 0).bind fun y => some (decide (0 ≤ y))) = some (xs.any q) := by
 have := abZ xs q hs he FUEL 0 (by omega) (lJ (by omega))
 rwa [List.drop_zero] at this
end Go.Dc

/- Plain laws of words: the lines of a text, for the program and the reference. -/
import Derived.Test.YtfbpbmnlbcnanaaDoorVa
import Derived.Test.YtfbpbmnlbcnanaaDoorWf
set_option linter.all false
namespace Go.Proofs.YtfbpbmnlbcnanaaDoor
open Go.Dc

def plainB (c : UInt8) : Bool := isPart c && decide (c.toNat ≠ 35)
/-! ### Lines -/
def splitNL : List UInt8 → List (List UInt8)
  | [] => [[]]
  | c :: cs => if c = 10 then [] :: splitNL cs else match splitNL cs with | [] => [[c]] | p :: ps => (c :: p) :: ps
theorem nl_none : ∀ {l : List UInt8}, 10 ∉ l → splitNL l = [l]
  | [], _ => rfl
  | c :: cs, h => by
    have hc : ¬ c = 10 := fun e => h (e ▸ List.mem_cons_self)
    unfold splitNL
    rw [if_neg hc, nl_none (fun hm => h (List.mem_cons_of_mem _ hm))]
theorem nl_cons {c : UInt8} {cs : List UInt8} (h : ¬ c = 10) : splitNL (c :: cs) = match splitNL cs with | [] => [[c]] | p :: ps => (c :: p) :: ps := by
  conv => lhs; unfold splitNL
  rw [if_neg h]
theorem nl_some : ∀ (a b : List UInt8), 10 ∉ a → splitNL (a ++ 10 :: b) = a :: splitNL b
  | [], b, _ => by simp [splitNL]
  | c :: cs, b, h => by
    have hc : ¬ c = 10 := fun e => h (e ▸ List.mem_cons_self)
    rw [List.cons_append, nl_cons hc, nl_some cs b (fun hm => h (List.mem_cons_of_mem _ hm))]
def lnsF (ln : Int) : List (List UInt8) → List (List Word) → (List (List Word)) × Int × Int
  | [], acc => (acc, 0, 0)
  | p :: ps, acc => match toks ln p with
    | none => ([], ln, 2)
    | some w => if 64 < w.length then ([], ln, 7) else lnsF (ln + 1) ps (if 0 < w.length then acc ++ [w] else acc)
/-- The lines of a text. -/
def linesR (l : List UInt8) : (List (List Word)) × Int × Int := if 65536 < l.length then ([], 0, 7) else lnsF 1 (splitNL l) []

theorem lineStep_m (t : Str) (number : Int) (lines : List (List Word)) (hl : t.l.length ≤ 1000000) (hn : 0 ≤ number ∧ number ≤ 1000000) (hll : lines.length ≤ 1000000) :
    lineStep t number lines = some (match toks (number + 1) t.l with
      | none => .inr (number + 1, 2)
      | some w => if 64 < w.length then .inr (number + 1, 7) else .inl (number + 1, if 0 < w.length then lines ++ [w] else lines)) := by
  unfold lineStep
  rw [chk_true (i64b_of (by omega) (by omega)), split_m t _ hl, Option.bind_some]
  cases toks (number + 1) t.l with
  | none => rfl
  | some w =>
    have e : splitR (some w) = (w, true) := rfl
    rw [e]
    dsimp only
    rw [if_neg (by simp)]
    by_cases h64 : 64 < w.length
    · rw [if_pos (by simp; omega), if_pos h64]
    · rw [if_neg (by simp; omega), if_neg h64]
      by_cases h0 : 0 < w.length
      · rw [if_pos (by simp; omega), if_pos h0, chk_true (by simp; omega)]
      · rw [if_neg (by simpa using h0), if_neg h0]

theorem linesF_none (f : Nat) (l : List UInt8) (number : Int) (lines : List (List Word)) (h : 10 ∉ l) (hl : l.length ≤ 65536) (hn : 0 ≤ number) (hn2 : number ≤ 65536) (hll : lines.length ≤ 1000000) :
    linesF (f + 1) ⟨l⟩ number lines = some (lnsF (number + 1) [l] lines) := by
  have hb0 : l.length ≤ 1000000 := by omega
  have sp := ib_spec 10 l
  unfold linesF
  simp only
  rw [sp.1 h, if_pos (by simp), lineStep_m ⟨l⟩ number lines hb0 (by omega) hll, Option.bind_some]
  unfold lnsF
  simp only
  cases toks (number + 1) l with
  | none => rfl
  | some w =>
    simp only
    by_cases h64 : 64 < w.length
    · rw [if_pos h64, if_pos h64]; rfl
    · rw [if_neg h64, if_neg h64]; rfl
theorem lineOn_inl {k : Int → List (List Word) → Option ((List (List Word)) × Int × Int)} {a : Int} {b : List (List Word)} : lineOn k (.inl (a, b)) = k a b := rfl
theorem linesF_some (f : Nat) (l : List UInt8) (number : Int) (lines : List (List Word)) (h : 10 ∈ l) (hl : l.length ≤ 65536) (hn : 0 ≤ number) (hn2 : number ≤ 65536) (hll : lines.length ≤ 1000000) :
    linesF (f + 1) ⟨l⟩ number lines = match toks (number + 1) (before 10 l) with
      | none => some ([], number + 1, 2)
      | some w => if 64 < w.length then some ([], number + 1, 7) else linesF f ⟨behind 10 l⟩ (number + 1) (if 0 < w.length then lines ++ [w] else lines) := by
  obtain ⟨h1, h2⟩ := (ib_spec 10 l).2 h
  have hlen : l.length = (before 10 l).length + 1 + (behind 10 l).length := by
    have := congrArg List.length h2
    simp at this
    omega
  have hb1 : (before 10 l).length ≤ 1000000 := by omega
  have e0 : ((before 10 l).length : Int) + 0 = ((before 10 l).length : Int) := by omega
  have s1 : strSub ⟨l⟩ 0 ((before 10 l).length : Int) = some ⟨before 10 l⟩ := by
    have := sub_pre (before 10 l) (10 :: behind 10 l)
    rwa [← h2] at this
  have s2 : strSub ⟨l⟩ (((before 10 l).length : Int) + (([10] : List UInt8).length : Int)) (l.length : Int) = some ⟨behind 10 l⟩ := by
    have := sub_suf (before 10 l ++ [10]) (behind 10 l)
    rw [List.append_assoc, List.singleton_append, ← h2] at this
    simpa using this
  have hi : i64b (((before 10 l).length : Int) + (([10] : List UInt8).length : Int)) = true := i64b_of (by simp only [List.length_singleton]; omega) (by simp only [List.length_singleton]; omega)
  conv => lhs; unfold linesF
  simp only
  generalize ([10] : List UInt8).length = ten at s2 hi ⊢
  rw [h1, if_neg (by simp), e0, chk_true (i64b_of (by omega) (by omega)), s1, Option.bind_some, lineStep_m ⟨before 10 l⟩ number lines hb1 (by omega) hll, Option.bind_some]
  cases toks (number + 1) (before 10 l) with
  | none => rfl
  | some w =>
    simp only
    by_cases h64 : 64 < w.length
    · rw [if_pos h64, if_pos h64]; rfl
    · rw [if_neg h64, if_neg h64]
      rw [lineOn_inl]
      rw [chk_true hi, s2, Option.bind_some]
theorem linesF_m : ∀ (f : Nat) (s : Str) (number : Int) (lines : List (List Word)), s.l.length < f → s.l.length ≤ 65536 → 0 ≤ number → number + s.l.length ≤ 65536 → (lines.length : Int) ≤ number →
    linesF f s number lines = some (lnsF (number + 1) (splitNL s.l) lines) := by
  intro f
  induction f with
  | zero => intro s number lines h; omega
  | succ f ih =>
    rintro ⟨l⟩ number lines hf hl hn hn2 hll
    simp only at hf hl hn2 ⊢
    by_cases h : 10 ∈ l
    · obtain ⟨h1, h2⟩ := (ib_spec 10 l).2 h
      have hlen : l.length = (before 10 l).length + 1 + (behind 10 l).length := by
        have := congrArg List.length h2
        simp at this
        omega
      have e3 : splitNL l = before 10 l :: splitNL (behind 10 l) := by
        have := nl_some (before 10 l) (behind 10 l) (before_not 10 l)
        rwa [← h2] at this
      have hb2 : (behind 10 l).length < f := by omega
      have hb3 : (behind 10 l).length ≤ 65536 := by omega
      have hb4 : number + 1 + ((behind 10 l).length : Int) ≤ 65536 := by omega
      have h5 := fun lines' h6 => ih ⟨behind 10 l⟩ (number + 1) lines' hb2 hb3 (by omega) hb4 h6
      rw [linesF_some f l number lines h hl hn (by omega) (by omega), e3]
      conv => rhs; unfold lnsF
      cases toks (number + 1) (before 10 l) with
      | none => rfl
      | some w =>
        simp only
        by_cases h64 : 64 < w.length
        · rw [if_pos h64, if_pos h64]
        · rw [if_neg h64, if_neg h64]
          exact h5 _ (by split <;> first | omega | (simp; omega))
    · rw [nl_none h]
      exact linesF_none f l number lines h hl hn (by omega) (by omega)

theorem lines_m (s : Str) : words_Lines_m s = some (linesR s.l) := by
  unfold words_Lines_m linesR
  by_cases h : 65536 < s.l.length
  · rw [if_pos (by simp; omega), if_pos h]
  · rw [if_neg (by simp; omega), if_neg h]
    exact linesF_m FUEL s 0 [] (fuel_of (by omega)) (by omega) (by omega) (by omega) (by simp)

/-! ### The reference's -/
/-! ### Comparing -/
end Go.Proofs.YtfbpbmnlbcnanaaDoor

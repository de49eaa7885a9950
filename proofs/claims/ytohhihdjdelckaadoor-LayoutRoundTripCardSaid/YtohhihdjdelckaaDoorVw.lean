/- Plain laws of words: what a line's words are, for the program's split and the reference's one. Plain laws of words: the lines of a text, for the program and the reference. -/
import Derived.Test.YtohhihdjdelckaaDoorWd
import Derived.Test.YtohhihdjdelckaaDoorWe
import Derived.Test.YtohhihdjdelckaaDoorQm
set_option linter.all false
namespace Go.Proofs.YtohhihdjdelckaaDoor
open Go.Dc

theorem byteAt_get {s : Str} {i : Nat} {x : UInt8} (h : s.l[i]? = some x) : byteAt s (i : Int) = some (x.toNat : Int) := by simp [byteAt, h]
theorem idx_get {α : Type} {xs : List α} {i : Nat} {x : α} (h : idx xs (i : Int) = some x) : xs[i]? = some x := by rwa [idx_nat] at h

/-! ### The first place of a byte -/
def before (c : UInt8) (l : List UInt8) : List UInt8 := l.takeWhile (fun b => b != c)
def behind (c : UInt8) (l : List UInt8) : List UInt8 := (l.dropWhile (fun b => b != c)).drop 1
theorem ib_spec (c : UInt8) : ∀ l : List UInt8, (c ∉ l → Lib.indexByte l c = -1) ∧ (c ∈ l → Lib.indexByte l c = (before c l).length ∧ l = before c l ++ c :: behind c l)
  | [] => ⟨fun _ => rfl, fun h => by simp at h⟩
  | b :: l => by
    have ih := ib_spec c l
    unfold Lib.indexByte
    by_cases hb : b = c
    · subst hb
      refine ⟨fun h => by simp at h, fun _ => ?_⟩
      simp [before, behind]
    · have hbe : (b == c) = false := by simpa using hb
      rw [hbe]
      have e1 : before c (b :: l) = b :: before c l := by simp [before, hb]
      have e2 : behind c (b :: l) = behind c l := by simp [behind, hb]
      refine ⟨fun h => ?_, fun h => ?_⟩
      · have : c ∉ l := fun hm => h (List.mem_cons_of_mem _ hm)
        rw [ih.1 this]; rfl
      · have hm : c ∈ l := by
          rcases List.mem_cons.1 h with h | h
          · exact absurd h.symm hb
          · exact h
        obtain ⟨h1, h2⟩ := ih.2 hm
        rw [e1, e2, h1]
        refine ⟨?_, by rw [List.cons_append, ← h2]⟩
        have hne : ((before c l).length : Int) ≠ -1 := by omega
        simp [hne]
theorem before_nil {c : UInt8} : ∀ {l : List UInt8}, c ∉ l → before c l = l
  | [], _ => rfl
  | b :: l, h => by
    have hb : b ≠ c := fun e => h (e ▸ List.mem_cons_self)
    have e1 : before c (b :: l) = b :: before c l := by simp [before, hb]
    rw [e1, before_nil (fun hm => h (List.mem_cons_of_mem _ hm))]
theorem before_not (c : UInt8) : ∀ l : List UInt8, c ∉ before c l
  | [] => by simp [before]
  | b :: l => by
    by_cases hb : b = c
    · subst hb; simp [before]
    · have e1 : before c (b :: l) = b :: before c l := by simp [before, hb]
      rw [e1]
      intro h
      rcases List.mem_cons.1 h with h | h
      · exact hb h.symm
      · exact before_not c l h
theorem sub_pre (a b : List UInt8) : strSub ⟨a ++ b⟩ 0 (a.length : Int) = some ⟨a⟩ := by
  unfold strSub
  rw [if_pos ⟨by omega, by omega, by simp; omega⟩]
  simp
theorem sub_suf (a b : List UInt8) : strSub ⟨a ++ b⟩ (a.length : Int) ((a ++ b).length : Int) = some ⟨b⟩ := by
  unfold strSub
  rw [if_pos ⟨by omega, by simp; omega, by simp⟩]
  simp only [Int.toNat_natCast, List.take_length]
  simp

/-- strings.Cut at one byte. -/
theorem cut_m (t : Str) (c : UInt8) (hl : t.l.length ≤ 1000000000000) : ∃ z : Str × Bool, strings_Cut_m t ⟨[c]⟩ = some (⟨before c t.l⟩, z) := by
  obtain ⟨l⟩ := t
  unfold strings_Cut_m stringslite_Cut_m
  have e : stringslite_Index_m ⟨l⟩ ⟨[c]⟩ = some (Lib.indexByte l c) := rfl
  rw [e, Option.bind_some]
  have sp := ib_spec c l
  by_cases h : c ∈ l
  · obtain ⟨h1, h2⟩ := sp.2 h
    rw [h1, if_pos (by simp)]
    have hlen : l.length = (before c l).length + 1 + (behind c l).length := by
      have := congrArg List.length h2
      simp at this
      omega
    have s1 : strSub ⟨l⟩ 0 ((before c l).length : Int) = some ⟨before c l⟩ := by
      have := sub_pre (before c l) (c :: behind c l)
      rwa [← h2] at this
    have s2 : strSub ⟨l⟩ (((before c l).length : Int) + (([c] : List UInt8).length : Int)) (l.length : Int) = some ⟨behind c l⟩ := by
      have := sub_suf (before c l ++ [c]) (behind c l)
      rw [List.append_assoc, List.singleton_append, ← h2] at this
      simpa using this
    simp only at hl ⊢
    rw [s1, Option.bind_some, chk_true (i64b_of (by omega) (by simp; omega)), s2]
    exact ⟨_, rfl⟩
  · rw [sp.1 h, if_neg (by simp), before_nil h]
    exact ⟨_, rfl⟩

/-! ### The words of a line -/
def isPart (c : UInt8) : Bool := decide (33 ≤ c.toNat) && decide (c.toNat ≤ 126)
def isBlank (c : UInt8) : Bool := decide (c.toNat = 32) || decide (c.toNat = 9)
/-- Byte by byte: i: the place; prev: whether the byte before is of a word, the last of acc. -/
def tk (ln : Int) : List UInt8 → Nat → Bool → List Word → Option (List Word)
  | [], _, _, acc => some acc
  | c :: cs, i, prev, acc =>
    if c.toNat = 35 then some acc else
    if isBlank c then tk ln cs (i + 1) false acc else
    if isPart c then
      match prev with
      | true => tk ln cs (i + 1) true (acc.dropLast ++ [⟨⟨(acc.getLastD default).Text.l ++ [c]⟩, (acc.getLastD default).Line, (acc.getLastD default).Col⟩])
      | false => tk ln cs (i + 1) true (acc ++ [⟨⟨[c]⟩, ln, (i : Int) + 1⟩])
    else none
def toks (ln : Int) (l : List UInt8) : Option (List Word) := tk ln l 0 false []

theorem tk_before (ln : Int) : ∀ (l : List UInt8) (i : Nat) (prev : Bool) (acc : List Word), tk ln (before 35 l) i prev acc = tk ln l i prev acc
  | [], _, _, _ => rfl
  | c :: cs, i, prev, acc => by
    by_cases h : c = 35
    · subst h
      simp [before, tk]
    · have e : before 35 (c :: cs) = c :: before 35 cs := by simp [before, h]
      rw [e]
      have hn : ¬ c.toNat = 35 := fun hh => h (UInt8.toNat_inj.1 hh)
      simp only [tk, if_neg hn]
      rw [tk_before ln cs, tk_before ln cs, tk_before ln cs]

theorem class_m (c : UInt8) : words_class_m (c.toNat : Int) = some (if isBlank c then 1 else if c.toNat = 10 then 2 else if c.toNat = 35 then 3 else if isPart c then 4 else 0) := by
  have key : ∀ k : Fin 256, words_class_m (k.val : Int) = some (if (decide (k.val = 32) || decide (k.val = 9)) = true then 1 else if k.val = 10 then 2 else if k.val = 35 then 3 else if (decide (33 ≤ k.val) && decide (k.val ≤ 126)) = true then 4 else 0) := by decide +kernel
  exact key ⟨c.toNat, c.toNat_lt⟩

/-- What is known as the program's loop stands. -/
def accW (ln : Int) (xs : List UInt8) (line : List Word) (start : Int) (i : Nat) : List Word :=
  if start < 0 then line else line ++ [⟨⟨(xs.take i).drop start.toNat⟩, ln, start + 1⟩]
theorem appendWord_m (line : List Word) (xs : List UInt8) (start : Int) (i : Nat) (ln : Int) (hi : i ≤ xs.length) (hs : start < 0 ∨ start < i) (hl : line.length ≤ 1000000) (hx : xs.length ≤ 1000000) :
    words_appendWord_m line ⟨xs⟩ start (i : Int) ln = some (accW ln xs line start i) := by
  unfold words_appendWord_m accW
  by_cases h : start < 0
  · rw [if_pos (by simpa using h), if_pos h]
  · rw [if_neg (by simpa using h), if_neg h]
    have hs' : start < i := by
      rcases hs with hs | hs
      · exact absurd hs h
      · exact hs
    have e : strSub ⟨xs⟩ start (i : Int) = some ⟨(xs.take i).drop start.toNat⟩ := by
      unfold strSub
      rw [if_pos ⟨by omega, by omega, by simp; omega⟩]
      simp
    rw [e, Option.bind_some, chk_true (i64b_of (by omega) (by omega)), chk_true (by simp; omega)]

def splitR (r : Option (List Word)) : List Word × Bool := match r with | some w => (w, true) | none => ([], false)

theorem split_m (t : Str) (ln : Int) (hl : t.l.length ≤ 1000000) : words_split_m t ln = some (splitR (toks ln t.l)) := by
  obtain ⟨l⟩ := t
  simp only at hl
  unfold words_split_m
  obtain ⟨z, hz⟩ := cut_m ⟨l⟩ 35 (by simp; omega)
  have h35 : 35 ∉ before 35 l := before_not 35 l
  have hlb : (before 35 l).length ≤ l.length := (List.takeWhile_prefix (p := fun b => b != (35 : UInt8))).length_le
  rw [hz, Option.bind_some]
  unfold toks
  rw [← tk_before ln l]
  generalize before 35 l = xs at h35 hlb
  rw [chk_true (by simp; omega)]
  have := iter_list (B := words_split_b1 (⟨xs⟩, z) ln) (fun (q : List Word × Int) i => (q.1, q.2, i)) xs (fun q i => (q.2 = -1 ∨ (0 ≤ q.2 ∧ q.2 < i)) ∧ q.1.length ≤ i)
    (fun q r => some (splitR (tk ln r (xs.length - r.length) (decide (0 ≤ q.2)) (accW ln xs q.1 q.2 (xs.length - r.length))))) ?_ ?_ FUEL ([], -1) 0 ⟨.inl rfl, by simp⟩ (by omega) (fuel_of (by omega))
  · simpa [accW] using this
  · rintro c ⟨line, start⟩ i x r ⟨hs, hll⟩ hdr hi hx hk
    simp only at hs hll
    have hxi := idx_get hx
    have hlen : xs.length - (x :: r).length = i := by
      have := congrArg List.length hdr
      simp at this ⊢
      omega
    have hlen' : xs.length - r.length = i + 1 := by
      have := congrArg List.length hdr
      simp at this
      omega
    have hx35 : ¬ x.toNat = 35 := fun hh => h35 (by
      have : x = 35 := UInt8.toNat_inj.1 hh
      rw [← this]
      exact List.mem_of_getElem? hxi)
    have htake : xs.take (i + 1) = xs.take i ++ [x] := by rw [List.take_add_one, hxi]; rfl
    rw [hlen]
    simp only [words_split_b1]
    rw [if_pos (by simp; omega), byteAt_get hxi, Option.bind_some, class_m, Option.bind_some]
    unfold tk
    simp only [if_neg hx35]
    by_cases hb : isBlank x = true
    · simp only [hb, if_true]
      rw [if_neg (by simp), if_pos (by simp), appendWord_m line xs start i ln (by omega) (by omega) (by omega) (by omega), Option.bind_some]
      simp only [words_split_k2]
      rw [hk (accW ln xs line start i, -1) ⟨.inl rfl, by unfold accW; split <;> simp <;> omega⟩, hlen']
      simp [accW]
    · simp only [hb, Bool.false_eq_true, if_false]
      by_cases hp : isPart x = true
      · have h10 : ¬ x.toNat = 10 := by
          unfold isPart at hp
          simp only [Bool.and_eq_true, decide_eq_true_eq] at hp
          omega
        simp only [hp, if_true, h10, hx35, if_false]
        rw [if_pos (by simp)]
        by_cases hst : start < 0
        · rw [if_pos (by simpa using hst)]
          simp only [words_split_k2]
          rw [hk (line, (i : Int)) ⟨.inr ⟨by omega, by simp; omega⟩, by simp; omega⟩, hlen']
          have d1 : decide (0 ≤ (i : Int)) = true := by simp
          have d2 : decide (0 ≤ start) = false := by simp; omega
          rw [d1, d2]
          simp only
          congr 3
          unfold accW
          rw [if_neg (by omega), if_pos hst, htake]
          simp only [Int.toNat_natCast]
          have hti : (xs.take i).length = i := by simp; omega
          rw [List.drop_append_of_le_length (by omega), List.drop_of_length_le (by omega)]
          rfl
        · rw [if_neg (by simpa using hst)]
          simp only [words_split_k2]
          have hs2 : 0 ≤ start ∧ start < i := by omega
          rw [hk (line, start) ⟨.inr ⟨by omega, by simp; omega⟩, by simp; omega⟩, hlen']
          have d1 : decide (0 ≤ start) = true := by simp; omega
          rw [d1]
          simp only
          congr 3
          unfold accW
          rw [if_neg hst, if_neg hst, htake]
          have hti : (xs.take i).length = i := by simp; omega
          rw [List.drop_append_of_le_length (by omega)]
          simp
      · simp only [hp, Bool.false_eq_true, if_false, hx35]
        split
        · rw [if_neg (by simp), if_neg (by simp)]; rfl
        · rw [if_neg (by simp), if_neg (by simp)]; rfl
  · rintro c ⟨line, start⟩ ⟨hs, hll⟩
    simp only at hs hll
    simp only [words_split_b1]
    rw [if_neg (by simp)]
    simp only [words_split_k1, List.length_nil, Nat.sub_zero, tk]
    rw [appendWord_m line xs start xs.length ln (by omega) (by omega) (by omega) (by omega), Option.bind_some]
    rfl
end Go.Proofs.YtohhihdjdelckaaDoor

namespace Go.Proofs.YtohhihdjdelckaaDoor
open Go.Dc

def plainB (c : UInt8) : Bool := isPart c && decide (c.toNat ≠ 35)
/-! ### Lines -/
def splitNL : List UInt8 → List (List UInt8)
  | [] => [[]]
  | c :: cs => if c = 10 then [] :: splitNL cs else match splitNL cs with | [] => [[c]] | p :: ps => (c :: p) :: ps
theorem nl_none : ∀ {l : List UInt8}, 10 ∉ l → splitNL l = [l]
  | [], _ => rfl
  | c :: cs, h => by
    have hc : ¬ c = 10 := fun e => h (e ▸ List.mem_cons_self)
    unfold splitNL
    rw [if_neg hc, nl_none (fun hm => h (List.mem_cons_of_mem _ hm))]
theorem nl_cons {c : UInt8} {cs : List UInt8} (h : ¬ c = 10) : splitNL (c :: cs) = match splitNL cs with | [] => [[c]] | p :: ps => (c :: p) :: ps := by
  conv => lhs; unfold splitNL
  rw [if_neg h]
theorem nl_some : ∀ (a b : List UInt8), 10 ∉ a → splitNL (a ++ 10 :: b) = a :: splitNL b
  | [], b, _ => by simp [splitNL]
  | c :: cs, b, h => by
    have hc : ¬ c = 10 := fun e => h (e ▸ List.mem_cons_self)
    rw [List.cons_append, nl_cons hc, nl_some cs b (fun hm => h (List.mem_cons_of_mem _ hm))]
def lnsF (ln : Int) : List (List UInt8) → List (List Word) → (List (List Word)) × Int × Int
  | [], acc => (acc, 0, 0)
  | p :: ps, acc => match toks ln p with
    | none => ([], ln, 2)
    | some w => if 64 < w.length then ([], ln, 7) else lnsF (ln + 1) ps (if 0 < w.length then acc ++ [w] else acc)
/-- The lines of a text. -/
def linesR (l : List UInt8) : (List (List Word)) × Int × Int := if 65536 < l.length then ([], 0, 7) else lnsF 1 (splitNL l) []

theorem lineStep_m (t : Str) (number : Int) (lines : List (List Word)) (hl : t.l.length ≤ 1000000) (hn : 0 ≤ number ∧ number ≤ 1000000) (hll : lines.length ≤ 1000000) :
    lineStep t number lines = some (match toks (number + 1) t.l with
      | none => .inr (number + 1, 2)
      | some w => if 64 < w.length then .inr (number + 1, 7) else .inl (number + 1, if 0 < w.length then lines ++ [w] else lines)) := by
  unfold lineStep
  rw [chk_true (i64b_of (by omega) (by omega)), split_m t _ hl, Option.bind_some]
  cases toks (number + 1) t.l with
  | none => rfl
  | some w =>
    have e : splitR (some w) = (w, true) := rfl
    rw [e]
    dsimp only
    rw [if_neg (by simp)]
    by_cases h64 : 64 < w.length
    · rw [if_pos (by simp; omega), if_pos h64]
    · rw [if_neg (by simp; omega), if_neg h64]
      by_cases h0 : 0 < w.length
      · rw [if_pos (by simp; omega), if_pos h0, chk_true (by simp; omega)]
      · rw [if_neg (by simpa using h0), if_neg h0]

theorem linesF_none (f : Nat) (l : List UInt8) (number : Int) (lines : List (List Word)) (h : 10 ∉ l) (hl : l.length ≤ 65536) (hn : 0 ≤ number) (hn2 : number ≤ 65536) (hll : lines.length ≤ 1000000) :
    linesF (f + 1) ⟨l⟩ number lines = some (lnsF (number + 1) [l] lines) := by
  have hb0 : l.length ≤ 1000000 := by omega
  have sp := ib_spec 10 l
  unfold linesF
  simp only
  rw [sp.1 h, if_pos (by simp), lineStep_m ⟨l⟩ number lines hb0 (by omega) hll, Option.bind_some]
  unfold lnsF
  simp only
  cases toks (number + 1) l with
  | none => rfl
  | some w =>
    simp only
    by_cases h64 : 64 < w.length
    · rw [if_pos h64, if_pos h64]; rfl
    · rw [if_neg h64, if_neg h64]; rfl
theorem lineOn_inl {k : Int → List (List Word) → Option ((List (List Word)) × Int × Int)} {a : Int} {b : List (List Word)} : lineOn k (.inl (a, b)) = k a b := rfl
theorem linesF_some (f : Nat) (l : List UInt8) (number : Int) (lines : List (List Word)) (h : 10 ∈ l) (hl : l.length ≤ 65536) (hn : 0 ≤ number) (hn2 : number ≤ 65536) (hll : lines.length ≤ 1000000) :
    linesF (f + 1) ⟨l⟩ number lines = match toks (number + 1) (before 10 l) with
      | none => some ([], number + 1, 2)
      | some w => if 64 < w.length then some ([], number + 1, 7) else linesF f ⟨behind 10 l⟩ (number + 1) (if 0 < w.length then lines ++ [w] else lines) := by
  obtain ⟨h1, h2⟩ := (ib_spec 10 l).2 h
  have hlen : l.length = (before 10 l).length + 1 + (behind 10 l).length := by
    have := congrArg List.length h2
    simp at this
    omega
  have hb1 : (before 10 l).length ≤ 1000000 := by omega
  have e0 : ((before 10 l).length : Int) + 0 = ((before 10 l).length : Int) := by omega
  have s1 : strSub ⟨l⟩ 0 ((before 10 l).length : Int) = some ⟨before 10 l⟩ := by
    have := sub_pre (before 10 l) (10 :: behind 10 l)
    rwa [← h2] at this
  have s2 : strSub ⟨l⟩ (((before 10 l).length : Int) + (([10] : List UInt8).length : Int)) (l.length : Int) = some ⟨behind 10 l⟩ := by
    have := sub_suf (before 10 l ++ [10]) (behind 10 l)
    rw [List.append_assoc, List.singleton_append, ← h2] at this
    simpa using this
  have hi : i64b (((before 10 l).length : Int) + (([10] : List UInt8).length : Int)) = true := i64b_of (by simp only [List.length_singleton]; omega) (by simp only [List.length_singleton]; omega)
  conv => lhs; unfold linesF
  simp only
  generalize ([10] : List UInt8).length = ten at s2 hi ⊢
  rw [h1, if_neg (by simp), e0, chk_true (i64b_of (by omega) (by omega)), s1, Option.bind_some, lineStep_m ⟨before 10 l⟩ number lines hb1 (by omega) hll, Option.bind_some]
  cases toks (number + 1) (before 10 l) with
  | none => rfl
  | some w =>
    simp only
    by_cases h64 : 64 < w.length
    · rw [if_pos h64, if_pos h64]; rfl
    · rw [if_neg h64, if_neg h64]
      rw [lineOn_inl]
      rw [chk_true hi, s2, Option.bind_some]
theorem linesF_m : ∀ (f : Nat) (s : Str) (number : Int) (lines : List (List Word)), s.l.length < f → s.l.length ≤ 65536 → 0 ≤ number → number + s.l.length ≤ 65536 → (lines.length : Int) ≤ number →
    linesF f s number lines = some (lnsF (number + 1) (splitNL s.l) lines) := by
  intro f
  induction f with
  | zero => intro s number lines h; omega
  | succ f ih =>
    rintro ⟨l⟩ number lines hf hl hn hn2 hll
    simp only at hf hl hn2 ⊢
    by_cases h : 10 ∈ l
    · obtain ⟨h1, h2⟩ := (ib_spec 10 l).2 h
      have hlen : l.length = (before 10 l).length + 1 + (behind 10 l).length := by
        have := congrArg List.length h2
        simp at this
        omega
      have e3 : splitNL l = before 10 l :: splitNL (behind 10 l) := by
        have := nl_some (before 10 l) (behind 10 l) (before_not 10 l)
        rwa [← h2] at this
      have hb2 : (behind 10 l).length < f := by omega
      have hb3 : (behind 10 l).length ≤ 65536 := by omega
      have hb4 : number + 1 + ((behind 10 l).length : Int) ≤ 65536 := by omega
      have h5 := fun lines' h6 => ih ⟨behind 10 l⟩ (number + 1) lines' hb2 hb3 (by omega) hb4 h6
      rw [linesF_some f l number lines h hl hn (by omega) (by omega), e3]
      conv => rhs; unfold lnsF
      cases toks (number + 1) (before 10 l) with
      | none => rfl
      | some w =>
        simp only
        by_cases h64 : 64 < w.length
        · rw [if_pos h64, if_pos h64]
        · rw [if_neg h64, if_neg h64]
          exact h5 _ (by split <;> first | omega | (simp; omega))
    · rw [nl_none h]
      exact linesF_none f l number lines h hl hn (by omega) (by omega)

theorem lines_m (s : Str) : words_Lines_m s = some (linesR s.l) := by
  unfold words_Lines_m linesR
  by_cases h : 65536 < s.l.length
  · rw [if_pos (by simp; omega), if_pos h]
  · rw [if_neg (by simp; omega), if_neg h]
    exact linesF_m FUEL s 0 [] (fuel_of (by omega)) (by omega) (by omega) (by omega) (by simp)

/-! ### The reference's -/
/-! ### Comparing -/
theorem nl_len (l : List UInt8) : (splitNL l).length ≤ l.length + 1 := by
  induction l with
  | nil => simp [splitNL]
  | cons c cs ih =>
    unfold splitNL
    split
    · simp; omega
    · cases h : splitNL cs with
      | nil => simp
      | cons p ps => rw [h] at ih; simp at ih ⊢; omega
theorem lnsF_len : ∀ (ps : List (List UInt8)) (ln : Int) (acc : List (List Word)), (∀ w ∈ acc, w.length ≤ 64) → (lnsF ln ps acc).1.length ≤ acc.length + ps.length ∧ ∀ w ∈ (lnsF ln ps acc).1, w.length ≤ 64
  | [], ln, acc, h => ⟨by simp [lnsF], h⟩
  | p :: ps, ln, acc, h => by
    unfold lnsF
    cases toks ln p with
    | none => simp
    | some w =>
      simp only
      by_cases h64 : 64 < w.length
      · rw [if_pos h64]; simp
      · rw [if_neg h64]
        have := lnsF_len ps (ln + 1) (if 0 < w.length then acc ++ [w] else acc) (by
          intro v hv
          split at hv
          · rcases List.mem_append.1 hv with hv | hv
            · exact h v hv
            · rw [List.mem_singleton] at hv; subst hv; omega
          · exact h v hv)
        refine ⟨?_, this.2⟩
        have h1 := this.1
        have h2 : (if 0 < w.length then acc ++ [w] else acc).length ≤ acc.length + 1 := by split <;> simp
        simp only [List.length_cons]
        omega
theorem linesR_len (l : List UInt8) : (linesR l).1.length ≤ 1000000 ∧ ∀ w ∈ (linesR l).1, w.length ≤ 64 := by
  unfold linesR
  by_cases h : 65536 < l.length
  · rw [if_pos h]; simp
  · rw [if_neg h]
    have := lnsF_len (splitNL l) 1 [] (by simp)
    have h2 := nl_len l
    refine ⟨?_, this.2⟩
    have := this.1
    simp at this
    omega
end Go.Proofs.YtohhihdjdelckaaDoor

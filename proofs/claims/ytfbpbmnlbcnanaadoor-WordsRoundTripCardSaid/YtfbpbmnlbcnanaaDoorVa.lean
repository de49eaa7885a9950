/- Plain laws of words: what a line's words are, for the program's split and the reference's one. -/
import Derived.Test.YtfbpbmnlbcnanaaDoorWd
import Derived.Test.YtfbpbmnlbcnanaaDoorWe
import Derived.Test.YtfbpbmnlbcnanaaDoorQ1
set_option linter.all false
namespace Go.Proofs.YtfbpbmnlbcnanaaDoor
open Go.Dc

theorem byteAt_get {s : Str} {i : Nat} {x : UInt8} (h : s.l[i]? = some x) : byteAt s (i : Int) = some (x.toNat : Int) := by simp [byteAt, h]
theorem idx_get {α : Type} {xs : List α} {i : Nat} {x : α} (h : idx xs (i : Int) = some x) : xs[i]? = some x := by rwa [idx_nat] at h

/-! ### The first place of a byte -/
def before (c : UInt8) (l : List UInt8) : List UInt8 := l.takeWhile (fun b => b != c)
def behind (c : UInt8) (l : List UInt8) : List UInt8 := (l.dropWhile (fun b => b != c)).drop 1
theorem ib_spec (c : UInt8) : ∀ l : List UInt8, (c ∉ l → Lib.indexByte l c = -1) ∧ (c ∈ l → Lib.indexByte l c = (before c l).length ∧ l = before c l ++ c :: behind c l)
  | [] => ⟨fun _ => rfl, fun h => by simp at h⟩
  | b :: l => by
    have ih := ib_spec c l
    unfold Lib.indexByte
    by_cases hb : b = c
    · subst hb
      refine ⟨fun h => by simp at h, fun _ => ?_⟩
      simp [before, behind]
    · have hbe : (b == c) = false := by simpa using hb
      rw [hbe]
      have e1 : before c (b :: l) = b :: before c l := by simp [before, hb]
      have e2 : behind c (b :: l) = behind c l := by simp [behind, hb]
      refine ⟨fun h => ?_, fun h => ?_⟩
      · have : c ∉ l := fun hm => h (List.mem_cons_of_mem _ hm)
        rw [ih.1 this]; rfl
      · have hm : c ∈ l := by
          rcases List.mem_cons.1 h with h | h
          · exact absurd h.symm hb
          · exact h
        obtain ⟨h1, h2⟩ := ih.2 hm
        rw [e1, e2, h1]
        refine ⟨?_, by rw [List.cons_append, ← h2]⟩
        have hne : ((before c l).length : Int) ≠ -1 := by omega
        simp [hne]
theorem before_nil {c : UInt8} : ∀ {l : List UInt8}, c ∉ l → before c l = l
  | [], _ => rfl
  | b :: l, h => by
    have hb : b ≠ c := fun e => h (e ▸ List.mem_cons_self)
    have e1 : before c (b :: l) = b :: before c l := by simp [before, hb]
    rw [e1, before_nil (fun hm => h (List.mem_cons_of_mem _ hm))]
theorem before_not (c : UInt8) : ∀ l : List UInt8, c ∉ before c l
  | [] => by simp [before]
  | b :: l => by
    by_cases hb : b = c
    · subst hb; simp [before]
    · have e1 : before c (b :: l) = b :: before c l := by simp [before, hb]
      rw [e1]
      intro h
      rcases List.mem_cons.1 h with h | h
      · exact hb h.symm
      · exact before_not c l h
theorem sub_pre (a b : List UInt8) : strSub ⟨a ++ b⟩ 0 (a.length : Int) = some ⟨a⟩ := by
  unfold strSub
  rw [if_pos ⟨by omega, by omega, by simp; omega⟩]
  simp
theorem sub_suf (a b : List UInt8) : strSub ⟨a ++ b⟩ (a.length : Int) ((a ++ b).length : Int) = some ⟨b⟩ := by
  unfold strSub
  rw [if_pos ⟨by omega, by simp; omega, by simp⟩]
  simp only [Int.toNat_natCast, List.take_length]
  simp

/-- strings.Cut at one byte. -/
theorem cut_m (t : Str) (c : UInt8) (hl : t.l.length ≤ 1000000000000) : ∃ z : Str × Bool, strings_Cut_m t ⟨[c]⟩ = some (⟨before c t.l⟩, z) := by
  obtain ⟨l⟩ := t
  unfold strings_Cut_m stringslite_Cut_m
  have e : stringslite_Index_m ⟨l⟩ ⟨[c]⟩ = some (Lib.indexByte l c) := rfl
  rw [e, Option.bind_some]
  have sp := ib_spec c l
  by_cases h : c ∈ l
  · obtain ⟨h1, h2⟩ := sp.2 h
    rw [h1, if_pos (by simp)]
    have hlen : l.length = (before c l).length + 1 + (behind c l).length := by
      have := congrArg List.length h2
      simp at this
      omega
    have s1 : strSub ⟨l⟩ 0 ((before c l).length : Int) = some ⟨before c l⟩ := by
      have := sub_pre (before c l) (c :: behind c l)
      rwa [← h2] at this
    have s2 : strSub ⟨l⟩ (((before c l).length : Int) + (([c] : List UInt8).length : Int)) (l.length : Int) = some ⟨behind c l⟩ := by
      have := sub_suf (before c l ++ [c]) (behind c l)
      rw [List.append_assoc, List.singleton_append, ← h2] at this
      simpa using this
    simp only at hl ⊢
    rw [s1, Option.bind_some, chk_true (i64b_of (by omega) (by simp; omega)), s2]
    exact ⟨_, rfl⟩
  · rw [sp.1 h, if_neg (by simp), before_nil h]
    exact ⟨_, rfl⟩

/-! ### The words of a line -/
def isPart (c : UInt8) : Bool := decide (33 ≤ c.toNat) && decide (c.toNat ≤ 126)
def isBlank (c : UInt8) : Bool := decide (c.toNat = 32) || decide (c.toNat = 9)
/-- Byte by byte: i: the place; prev: whether the byte before is of a word, the last of acc. -/
def tk (ln : Int) : List UInt8 → Nat → Bool → List Word → Option (List Word)
  | [], _, _, acc => some acc
  | c :: cs, i, prev, acc =>
    if c.toNat = 35 then some acc else
    if isBlank c then tk ln cs (i + 1) false acc else
    if isPart c then
      match prev with
      | true => tk ln cs (i + 1) true (acc.dropLast ++ [⟨⟨(acc.getLastD default).Text.l ++ [c]⟩, (acc.getLastD default).Line, (acc.getLastD default).Col⟩])
      | false => tk ln cs (i + 1) true (acc ++ [⟨⟨[c]⟩, ln, (i : Int) + 1⟩])
    else none
def toks (ln : Int) (l : List UInt8) : Option (List Word) := tk ln l 0 false []

theorem tk_before (ln : Int) : ∀ (l : List UInt8) (i : Nat) (prev : Bool) (acc : List Word), tk ln (before 35 l) i prev acc = tk ln l i prev acc
  | [], _, _, _ => rfl
  | c :: cs, i, prev, acc => by
    by_cases h : c = 35
    · subst h
      simp [before, tk]
    · have e : before 35 (c :: cs) = c :: before 35 cs := by simp [before, h]
      rw [e]
      have hn : ¬ c.toNat = 35 := fun hh => h (UInt8.toNat_inj.1 hh)
      simp only [tk, if_neg hn]
      rw [tk_before ln cs, tk_before ln cs, tk_before ln cs]

theorem class_m (c : UInt8) : words_class_m (c.toNat : Int) = some (if isBlank c then 1 else if c.toNat = 10 then 2 else if c.toNat = 35 then 3 else if isPart c then 4 else 0) := by
  have key : ∀ k : Fin 256, words_class_m (k.val : Int) = some (if (decide (k.val = 32) || decide (k.val = 9)) = true then 1 else if k.val = 10 then 2 else if k.val = 35 then 3 else if (decide (33 ≤ k.val) && decide (k.val ≤ 126)) = true then 4 else 0) := by decide +kernel
  exact key ⟨c.toNat, c.toNat_lt⟩

/-- What is known as the program's loop stands. -/
def accW (ln : Int) (xs : List UInt8) (line : List Word) (start : Int) (i : Nat) : List Word :=
  if start < 0 then line else line ++ [⟨⟨(xs.take i).drop start.toNat⟩, ln, start + 1⟩]
theorem appendWord_m (line : List Word) (xs : List UInt8) (start : Int) (i : Nat) (ln : Int) (hi : i ≤ xs.length) (hs : start < 0 ∨ start < i) (hl : line.length ≤ 1000000) (hx : xs.length ≤ 1000000) :
    words_appendWord_m line ⟨xs⟩ start (i : Int) ln = some (accW ln xs line start i) := by
  unfold words_appendWord_m accW
  by_cases h : start < 0
  · rw [if_pos (by simpa using h), if_pos h]
  · rw [if_neg (by simpa using h), if_neg h]
    have hs' : start < i := by
      rcases hs with hs | hs
      · exact absurd hs h
      · exact hs
    have e : strSub ⟨xs⟩ start (i : Int) = some ⟨(xs.take i).drop start.toNat⟩ := by
      unfold strSub
      rw [if_pos ⟨by omega, by omega, by simp; omega⟩]
      simp
    rw [e, Option.bind_some, chk_true (i64b_of (by omega) (by omega)), chk_true (by simp; omega)]

def splitR (r : Option (List Word)) : List Word × Bool := match r with | some w => (w, true) | none => ([], false)

theorem split_m (t : Str) (ln : Int) (hl : t.l.length ≤ 1000000) : words_split_m t ln = some (splitR (toks ln t.l)) := by
  obtain ⟨l⟩ := t
  simp only at hl
  unfold words_split_m
  obtain ⟨z, hz⟩ := cut_m ⟨l⟩ 35 (by simp; omega)
  have h35 : 35 ∉ before 35 l := before_not 35 l
  have hlb : (before 35 l).length ≤ l.length := (List.takeWhile_prefix (p := fun b => b != (35 : UInt8))).length_le
  rw [hz, Option.bind_some]
  unfold toks
  rw [← tk_before ln l]
  generalize before 35 l = xs at h35 hlb
  rw [chk_true (by simp; omega)]
  have := iter_list (B := words_split_b1 (⟨xs⟩, z) ln) (fun (q : List Word × Int) i => (q.1, q.2, i)) xs (fun q i => (q.2 = -1 ∨ (0 ≤ q.2 ∧ q.2 < i)) ∧ q.1.length ≤ i)
    (fun q r => some (splitR (tk ln r (xs.length - r.length) (decide (0 ≤ q.2)) (accW ln xs q.1 q.2 (xs.length - r.length))))) ?_ ?_ FUEL ([], -1) 0 ⟨.inl rfl, by simp⟩ (by omega) (fuel_of (by omega))
  · simpa [accW] using this
  · rintro c ⟨line, start⟩ i x r ⟨hs, hll⟩ hdr hi hx hk
    simp only at hs hll
    have hxi := idx_get hx
    have hlen : xs.length - (x :: r).length = i := by
      have := congrArg List.length hdr
      simp at this ⊢
      omega
    have hlen' : xs.length - r.length = i + 1 := by
      have := congrArg List.length hdr
      simp at this
      omega
    have hx35 : ¬ x.toNat = 35 := fun hh => h35 (by
      have : x = 35 := UInt8.toNat_inj.1 hh
      rw [← this]
      exact List.mem_of_getElem? hxi)
    have htake : xs.take (i + 1) = xs.take i ++ [x] := by rw [List.take_add_one, hxi]; rfl
    rw [hlen]
    simp only [words_split_b1]
    rw [if_pos (by simp; omega), byteAt_get hxi, Option.bind_some, class_m, Option.bind_some]
    unfold tk
    simp only [if_neg hx35]
    by_cases hb : isBlank x = true
    · simp only [hb, if_true]
      rw [if_neg (by simp), if_pos (by simp), appendWord_m line xs start i ln (by omega) (by omega) (by omega) (by omega), Option.bind_some]
      simp only [words_split_k2]
      rw [hk (accW ln xs line start i, -1) ⟨.inl rfl, by unfold accW; split <;> simp <;> omega⟩, hlen']
      simp [accW]
    · simp only [hb, Bool.false_eq_true, if_false]
      by_cases hp : isPart x = true
      · have h10 : ¬ x.toNat = 10 := by
          unfold isPart at hp
          simp only [Bool.and_eq_true, decide_eq_true_eq] at hp
          omega
        simp only [hp, if_true, h10, hx35, if_false]
        rw [if_pos (by simp)]
        by_cases hst : start < 0
        · rw [if_pos (by simpa using hst)]
          simp only [words_split_k2]
          rw [hk (line, (i : Int)) ⟨.inr ⟨by omega, by simp; omega⟩, by simp; omega⟩, hlen']
          have d1 : decide (0 ≤ (i : Int)) = true := by simp
          have d2 : decide (0 ≤ start) = false := by simp; omega
          rw [d1, d2]
          simp only
          congr 3
          unfold accW
          rw [if_neg (by omega), if_pos hst, htake]
          simp only [Int.toNat_natCast]
          have hti : (xs.take i).length = i := by simp; omega
          rw [List.drop_append_of_le_length (by omega), List.drop_of_length_le (by omega)]
          rfl
        · rw [if_neg (by simpa using hst)]
          simp only [words_split_k2]
          have hs2 : 0 ≤ start ∧ start < i := by omega
          rw [hk (line, start) ⟨.inr ⟨by omega, by simp; omega⟩, by simp; omega⟩, hlen']
          have d1 : decide (0 ≤ start) = true := by simp; omega
          rw [d1]
          simp only
          congr 3
          unfold accW
          rw [if_neg hst, if_neg hst, htake]
          have hti : (xs.take i).length = i := by simp; omega
          rw [List.drop_append_of_le_length (by omega)]
          simp
      · simp only [hp, Bool.false_eq_true, if_false, hx35]
        split
        · rw [if_neg (by simp), if_neg (by simp)]; rfl
        · rw [if_neg (by simp), if_neg (by simp)]; rfl
  · rintro c ⟨line, start⟩ ⟨hs, hll⟩
    simp only at hs hll
    simp only [words_split_b1]
    rw [if_neg (by simp)]
    simp only [words_split_k1, List.length_nil, Nat.sub_zero, tk]
    rw [appendWord_m line xs start xs.length ln (by omega) (by omega) (by omega) (by omega), Option.bind_some]
    rfl
end Go.Proofs.YtfbpbmnlbcnanaaDoor

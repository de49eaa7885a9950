/- Words laws: the words of a joined text. -/
import Derived.Test.YtohhihdjdelckaaDoorVj
set_option linter.all false
namespace Go.Proofs.YtohhihdjdelckaaDoor
open Go.Dc
set_option maxRecDepth 10000

theorem plain_step (c : UInt8) (h : plainB c = true) : ¬ c.toNat = 35 ∧ isBlank c = false ∧ isPart c = true := by
  unfold plainB at h
  simp only [Bool.and_eq_true, decide_eq_true_eq] at h
  refine ⟨h.2, ?_, h.1⟩
  have h1 := h.1
  unfold isPart at h1
  simp only [Bool.and_eq_true, decide_eq_true_eq] at h1
  unfold isBlank
  simp only [Bool.or_eq_false_iff, decide_eq_false_iff_not]
  omega
theorem plain_not10 {c : UInt8} (h : plainB c = true) : c ≠ 10 := by
  rintro rfl
  revert h; decide
theorem tk_word (ln : Int) : ∀ (q rest : List UInt8) (i : Nat) (acc : List Word) (t : List UInt8) (L C : Int), q.all plainB = true →
    tk ln (q ++ rest) i true (acc ++ [⟨⟨t⟩, L, C⟩]) = tk ln rest (i + q.length) true (acc ++ [⟨⟨t ++ q⟩, L, C⟩])
  | [], rest, i, acc, t, L, C, _ => by simp
  | c :: q, rest, i, acc, t, L, C, h => by
    simp only [List.all_cons, Bool.and_eq_true] at h
    obtain ⟨h1, h2, h3⟩ := plain_step c h.1
    simp only [List.cons_append, tk]
    rw [if_neg h1, h2, if_neg (by simp), h3, if_pos rfl]
    simp only [List.dropLast_concat, List.getLastD_concat]
    rw [tk_word ln q rest (i + 1) acc (t ++ [c]) L C h.2]
    simp only [List.length_cons, List.append_assoc, List.cons_append, List.nil_append]
    rw [show i + 1 + q.length = i + (q.length + 1) by omega]
theorem tk_start (ln : Int) (s : Str) (rest : List UInt8) (i : Nat) (acc : List Word) (h : wordB s = true) :
    tk ln (s.l ++ rest) i false acc = tk ln rest (i + s.l.length) true (acc ++ [⟨s, ln, (i : Int) + 1⟩]) := by
  obtain ⟨l⟩ := s
  unfold wordB at h
  simp only [Bool.and_eq_true, decide_eq_true_eq] at h
  cases l with
  | nil => exact absurd rfl h.1
  | cons c q =>
    have hq := h.2
    simp only [List.all_cons, Bool.and_eq_true] at hq
    obtain ⟨h1, h2, h3⟩ := plain_step c hq.1
    simp only [List.cons_append, tk]
    rw [if_neg h1, h2, if_neg (by simp), h3, if_pos rfl, tk_word ln q rest (i + 1) acc [c] ln _ hq.2]
    simp only [List.length_cons, List.cons_append, List.nil_append]
    rw [show i + 1 + q.length = i + (q.length + 1) by omega]
/-- The words of a line that has been joined. -/
def wordsAt (ln : Int) : List Str → Nat → List Word
  | [], _ => []
  | s :: r, i => ⟨s, ln, (i : Int) + 1⟩ :: wordsAt ln r (i + s.l.length + 1)
theorem tk_wl (ln : Int) : ∀ (w : List Str), w.all wordB = true → (∀ (i : Nat) (prev : Bool) (acc : List Word), tk ln (wlF false w) i prev acc = some (acc ++ wordsAt ln w (i + 1)))
  | [], _, i, prev, acc => by simp [wlF, tk, wordsAt]
  | s :: r, h, i, prev, acc => by
    simp only [List.all_cons, Bool.and_eq_true] at h
    have e : wlF false (s :: r) = 32 :: (s.l ++ wlF false r) := by simp [wlF]
    rw [e]
    have e2 : tk ln (32 :: (s.l ++ wlF false r)) i prev acc = tk ln (s.l ++ wlF false r) (i + 1) false acc := rfl
    rw [e2, tk_start ln s _ _ _ h.1, tk_wl ln r h.2]
    simp [wordsAt]
theorem toks_wl (ln : Int) (w : List Str) (h : w.all wordB = true) : toks ln (wlF true w) = some (wordsAt ln w 0) := by
  cases w with
  | nil => rfl
  | cons s r =>
    simp only [List.all_cons, Bool.and_eq_true] at h
    have e : wlF true (s :: r) = s.l ++ wlF false r := by simp [wlF]
    unfold toks
    rw [e, tk_start ln s _ _ _ h.1, tk_wl ln r h.2]
    simp [wordsAt]
theorem wordsAt_len (ln : Int) : ∀ (w : List Str) (i : Nat), (wordsAt ln w i).length = w.length
  | [], _ => rfl
  | s :: r, i => by simp [wordsAt, wordsAt_len ln r]
theorem wordsAt_text (ln : Int) : ∀ (w : List Str) (i : Nat), (wordsAt ln w i).map (·.Text) = w
  | [], _ => rfl
  | s :: r, i => by simp [wordsAt, wordsAt_text ln r]
theorem word_not10 {s : Str} (h : wordB s = true) : 10 ∉ s.l := fun h10 => by
  unfold wordB at h
  simp only [Bool.and_eq_true] at h
  exact plain_not10 (List.all_eq_true.1 h.2 10 h10) rfl
theorem wl_not10 : ∀ (f : Bool) (w : List Str), w.all wordB = true → 10 ∉ wlF f w
  | _, [], _ => by simp [wlF]
  | f, s :: r, h => by
    simp only [List.all_cons, Bool.and_eq_true] at h
    have h1 := word_not10 h.1
    have h2 := wl_not10 false r h.2
    simp only [wlF, List.mem_append]
    rintro ((hx | hx) | hx)
    · cases f <;> simp at hx
    · exact h1 hx
    · exact h2 hx
/-- A list of words that can be joined. -/
def lineOk (w : List Str) : Prop := 0 < w.length ∧ w.length ≤ 64 ∧ w.all wordB = true
def joinT : List (List Str) → List UInt8
  | [] => []
  | w :: r => wlF true w ++ 10 :: joinT r
def linesAt : Int → List (List Str) → List (List Word)
  | _, [] => []
  | ln, w :: r => wordsAt ln w 0 :: linesAt (ln + 1) r
theorem joinL_ok : ∀ (l : List (List Str)) (acc : List UInt8), (∀ w ∈ l, lineOk w) → joinL l acc = some (acc ++ joinT l)
  | [], acc, _ => by simp [joinL, joinT]
  | w :: r, acc, h => by
    obtain ⟨h1, h2, h3⟩ := h w List.mem_cons_self
    simp only [joinL]
    rw [if_neg (by rw [Bool.or_eq_true]; rintro (h | h) <;> (have := of_decide_eq_true h; omega)), if_pos h3, joinL_ok r _ (fun x hx => h x (List.mem_cons_of_mem _ hx))]
    simp [joinT]
theorem nl_join : ∀ (l : List (List Str)), (∀ w ∈ l, lineOk w) → splitNL (joinT l) = l.map (wlF true) ++ [[]]
  | [], _ => rfl
  | w :: r, h => by
    obtain ⟨_, _, h3⟩ := h w List.mem_cons_self
    simp only [joinT]
    rw [nl_some _ _ (wl_not10 true w h3), nl_join r (fun x hx => h x (List.mem_cons_of_mem _ hx))]
    rfl
theorem lns_join : ∀ (l : List (List Str)) (ln : Int) (acc : List (List Word)), (∀ w ∈ l, lineOk w) → lnsF ln (l.map (wlF true) ++ [[]]) acc = (acc ++ linesAt ln l, 0, 0)
  | [], ln, acc, _ => by
    simp only [List.map_nil, List.nil_append, linesAt, List.append_nil]
    rfl
  | w :: r, ln, acc, h => by
    obtain ⟨h1, h2, h3⟩ := h w List.mem_cons_self
    simp only [List.map_cons, List.cons_append, lnsF]
    rw [toks_wl ln w h3]
    simp only
    rw [wordsAt_len, if_neg (by omega), if_pos h1, lns_join r _ _ (fun x hx => h x (List.mem_cons_of_mem _ hx))]
    simp [linesAt]
theorem lines_join (l : List (List Str)) (h : ∀ w ∈ l, lineOk w) (hl : (joinT l).length ≤ 65536) : linesR (joinT l) = (linesAt 1 l, 0, 0) := by
  unfold linesR
  rw [if_neg (by omega), nl_join l h, lns_join l 1 [] h]
  rfl
end Go.Proofs.YtohhihdjdelckaaDoor

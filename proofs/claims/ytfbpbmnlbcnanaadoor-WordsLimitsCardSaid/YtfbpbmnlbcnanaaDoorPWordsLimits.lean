/- WordsLimits, the plain law. -/
import Derived.Test.YtfbpbmnlbcnanaaDoorVc
import Derived.Test.YtfbpbmnlbcnanaaDoorWWordsLimits
namespace Go.Proofs.YtfbpbmnlbcnanaaDoor
open Go.Dc
theorem pick3_m (v : Int) : ∃ k : Nat, keep_Pick_m v 68 = some (k : Int) ∧ k < 68 := by
  unfold keep_Pick_m
  have e : IntKind.u64.wrap 68 = 68 := by decide +kernel
  rw [e, chk_true (by decide)]
  have h0 : 0 ≤ IntKind.u64.wrap v := by
    unfold IntKind.wrap
    simp [IntKind.signed, IntKind.bits]
    omega
  generalize IntKind.u64.wrap v = u at h0
  have h1 : 0 ≤ u.tmod 68 := Int.tmod_nonneg _ h0
  have h2 : u.tmod 68 < 68 := Int.tmod_lt_of_pos _ (by omega)
  refine ⟨(u.tmod 68).toNat, ?_, by omega⟩
  have e2 : IntKind.i64.wrap (u.tmod 68) = u.tmod 68 := by
    have key : ∀ k : Fin 68, IntKind.i64.wrap (k.val : Int) = (k.val : Int) := by decide +kernel
    have := key ⟨(u.tmod 68).toNat, by omega⟩
    simp only at this
    rwa [Int.toNat_of_nonneg h1] at this
  rw [e2, Int.toNat_of_nonneg h1]
def wsp : Nat → List UInt8
  | 0 => []
  | y + 1 => wsp y ++ [119, 32]
theorem wsp_len : ∀ y, (wsp y).length = 2 * y
  | 0 => rfl
  | y + 1 => by simp only [wsp, List.length_append, wsp_len y, List.length_cons, List.length_nil]; omega
theorem wsp_not : ∀ y, 10 ∉ wsp y
  | 0 => by simp [wsp]
  | y + 1 => by have := wsp_not y; simp [wsp, this]
theorem wsp_cons : ∀ y, wsp (y + 1) = 119 :: 32 :: wsp y
  | 0 => rfl
  | y + 1 => by
    have e : wsp (y + 1 + 1) = wsp (y + 1) ++ [119, 32] := rfl
    have e' : wsp (y + 1) = wsp y ++ [119, 32] := rfl
    rw [e, wsp_cons y, List.cons_append, List.cons_append, ← e', wsp_cons y]
theorem tk_wsp (ln : Int) : ∀ (y i : Nat) (acc : List Word), ∃ w, tk ln (wsp y) i false acc = some w ∧ w.length = acc.length + y
  | 0, i, acc => ⟨acc, rfl, rfl⟩
  | y + 1, i, acc => by
    rw [wsp_cons]
    obtain ⟨w, h1, h2⟩ := tk_wsp ln y (i + 1 + 1) (acc ++ [⟨⟨[119]⟩, ln, (i : Int) + 1⟩])
    refine ⟨w, ?_, by rw [h2]; simp; omega⟩
    have e1 : tk ln (119 :: 32 :: wsp y) i false acc = tk ln (32 :: wsp y) (i + 1) true (acc ++ [⟨⟨[119]⟩, ln, (i : Int) + 1⟩]) := rfl
    have e2 : ∀ a, tk ln (32 :: wsp y) (i + 1) true a = tk ln (wsp y) (i + 1 + 1) false a := fun _ => rfl
    rw [e1, e2, h1]
theorem nl_rep : ∀ (k : Nat) (t : List UInt8), splitNL (List.replicate k 10 ++ t) = List.replicate k [] ++ splitNL t
  | 0, _ => rfl
  | k + 1, t => by
    rw [List.replicate_succ, List.cons_append]
    have := nl_some [] (List.replicate k 10 ++ t) (by simp)
    rw [List.nil_append] at this
    rw [this, nl_rep k t, List.replicate_succ, List.cons_append]
theorem lns_rep : ∀ (k : Nat) (ln : Int) (ps : List (List UInt8)) (acc : List (List Word)), lnsF ln (List.replicate k [] ++ ps) acc = lnsF (ln + k) ps acc
  | 0, ln, ps, acc => by simp
  | k + 1, ln, ps, acc => by
    rw [List.replicate_succ, List.cons_append]
    have e : lnsF ln ([] :: (List.replicate k [] ++ ps)) acc = lnsF (ln + 1) (List.replicate k [] ++ ps) acc := rfl
    rw [e, lns_rep k]
    congr 1
    omega
theorem limits_k2 (y k : Nat) (hy : y < 68) (hk : k ≤ 4) (behind : Str) (before : Int) (hb : IntKind.i64.wrap (before.tmod 5) = (k : Int)) :
    law3_WordsLimits_k2 (y : Int) ⟨List.replicate k 10 ++ wsp y⟩ behind before () = some true := by
  unfold law3_WordsLimits_k2
  have hw := wsp_len y
  have h10 := wsp_not y
  by_cases h : 64 < y
  · rw [if_pos (by simp; omega)]
    have c1 : strCat ⟨List.replicate k 10 ++ wsp y⟩ ⟨[10]⟩ = some ⟨List.replicate k 10 ++ wsp y ++ [10]⟩ := by
      unfold strCat
      rw [if_pos (by simp only [List.length_append, List.length_replicate, List.length_singleton]; omega)]
    have h1 : ∃ z, strSub behind 0 (if 100 < (behind.l.length : Int) then 100 else (behind.l.length : Int)) = some z ∧ z.l.length ≤ 100 := by
      unfold strSub
      refine ⟨_, if_pos ⟨by omega, by split <;> omega, by split <;> omega⟩, ?_⟩
      simp only [List.length_drop, List.length_take]
      split <;> omega
    obtain ⟨z, hz, hzl⟩ := h1
    have c2 : strCat ⟨List.replicate k 10 ++ wsp y ++ [10]⟩ z = some ⟨List.replicate k 10 ++ wsp y ++ [10] ++ z.l⟩ := by
      unfold strCat
      rw [if_pos (by simp only [List.length_append, List.length_replicate, List.length_singleton]; omega)]
    have hL : linesR (List.replicate k 10 ++ wsp y ++ [10] ++ z.l) = ([], 1 + (k : Int), 7) := by
      unfold linesR
      rw [if_neg (by simp only [List.length_append, List.length_replicate, List.length_singleton]; omega)]
      have e : List.replicate k 10 ++ wsp y ++ [10] ++ z.l = List.replicate k 10 ++ (wsp y ++ 10 :: z.l) := by simp
      rw [e, nl_rep, nl_some _ _ h10, lns_rep]
      obtain ⟨w, hw1, hw2⟩ := tk_wsp (1 + (k : Int)) y 0 []
      unfold lnsF toks
      rw [hw1]
      simp only [List.length_nil, Nat.zero_add] at hw2
      simp only
      rw [if_pos (by omega)]
    rw [c1, Option.bind_some, hz, Option.bind_some, c2, Option.bind_some, lines_m, Option.bind_some, hL, awake3, Option.bind_some, hb, chk_true (by rw [i64b_of (by omega) (by omega)]; simp)]
    simp
  · rw [if_neg (by simp; omega)]
    obtain ⟨w, hw1, hw2⟩ := tk_wsp (1 + (k : Int)) y 0 []
    simp only [List.length_nil, Nat.zero_add] at hw2
    have hL : linesR (List.replicate k 10 ++ wsp y) = (if 0 < y then [w] else [], 0, 0) := by
      unfold linesR
      rw [if_neg (by simp only [List.length_append, List.length_replicate]; omega), nl_rep, nl_none h10, lns_rep]
      unfold lnsF toks
      rw [hw1]
      simp only
      rw [if_neg (by omega), hw2]
      rfl
    rw [lines_m, Option.bind_some, hL, awake3, Option.bind_some]
    by_cases h0 : 0 < y
    · have hne : ¬ (y : Int) = 0 := by omega
      simp [h0, hne, whn, idx, hw2]
    · have hy0 : y = 0 := by omega
      subst hy0
      simp [whn]
theorem limits_b2 (y k : Nat) (hy : y < 68) (hk : k ≤ 4) (behind : Str) (before : Int) (hb : IntKind.i64.wrap (before.tmod 5) = (k : Int)) : ∀ (n j : Nat), j ≤ y → y - j < n →
    iter (law3_WordsLimits_b2 (y : Int) behind before) n (⟨List.replicate k 10 ++ wsp j⟩, j) = some true := by
  intro n
  induction n with
  | zero => intro j _ h; omega
  | succ n ih =>
    intro j hj hn
    show law3_WordsLimits_b2 (y : Int) behind before (iter _ n) (⟨List.replicate k 10 ++ wsp j⟩, j) = _
    simp only [law3_WordsLimits_b2]
    by_cases h : j < y
    · have hw := wsp_len j
      have c1 : strCat ⟨List.replicate k 10 ++ wsp j⟩ ⟨[119, 32]⟩ = some ⟨List.replicate k 10 ++ wsp (j + 1)⟩ := by
        unfold strCat
        rw [if_pos (by simp only [List.length_append, List.length_replicate, List.length_cons, List.length_nil]; omega), List.append_assoc]
        rfl
      rw [if_pos (by simp; omega), c1, Option.bind_some, chk_true (i64b_of (by omega) (by omega)), ih (j + 1) (by omega) (by omega)]
    · obtain rfl : j = y := by omega
      rw [if_neg (by simp)]
      exact limits_k2 j k hy hk behind before hb
theorem limits_b1 (y k : Nat) (hy : y < 68) (hk : k ≤ 4) (behind : Str) (before : Int) (hb : IntKind.i64.wrap (before.tmod 5) = (k : Int)) : ∀ (n j : Nat), j ≤ k → k - j < n →
    iter (law3_WordsLimits_b1 before (y : Int) behind) n (⟨List.replicate j 10⟩, j) = some true := by
  intro n
  induction n with
  | zero => intro j _ h; omega
  | succ n ih =>
    intro j hj hn
    show law3_WordsLimits_b1 before (y : Int) behind (iter _ n) (⟨List.replicate j 10⟩, j) = _
    simp only [law3_WordsLimits_b1]
    rw [hb]
    by_cases h : j < k
    · have c1 : strCat ⟨List.replicate j 10⟩ ⟨[10]⟩ = some ⟨List.replicate (j + 1) 10⟩ := by
        unfold strCat
        rw [if_pos (by simp only [List.length_replicate, List.length_singleton]; omega), List.replicate_succ']
      rw [if_pos (by simp; omega), c1, Option.bind_some, chk_true (i64b_of (by omega) (by omega)), ih (j + 1) (by omega) (by omega)]
    · obtain rfl : j = k := by omega
      rw [if_neg (by simp)]
      unfold law3_WordsLimits_k1
      have := limits_b2 y j hy hk behind before hb FUEL 0 (by omega) (fuel_of (by omega))
      simp only [wsp, List.append_nil] at this
      exact this
theorem wordsLimits_plain (n before : Int) (behind : Str) (_ : -9223372036854775808 ≤ n ∧ n ≤ 9223372036854775807) (hb : 0 ≤ before ∧ before ≤ 255) (_ : Wf.wf behind) : law3_WordsLimits_m n before behind = some true := by
  unfold law3_WordsLimits_m
  obtain ⟨y, hy, hy2⟩ := pick3_m n
  have key : ∀ k : Fin 256, 0 ≤ IntKind.i64.wrap ((k.val : Int).tmod 5) ∧ IntKind.i64.wrap ((k.val : Int).tmod 5) ≤ 4 := by decide +kernel
  have hk := key ⟨before.toNat, by omega⟩
  simp only at hk
  rw [Int.toNat_of_nonneg hb.1] at hk
  rw [hy, Option.bind_some]
  exact limits_b1 y (IntKind.i64.wrap (before.tmod 5)).toNat hy2 (by omega) behind before (by omega) FUEL 0 (by omega) (fuel_of (by omega))
end Go.Proofs.YtfbpbmnlbcnanaaDoor

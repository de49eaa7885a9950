/- WordsRoundTrip, the plain law. -/
import Derived.Test.YtfbpbmnlbcnanaaDoorVf
import Derived.Test.YtfbpbmnlbcnanaaDoorWWordsRoundTrip
set_option linter.all false
namespace Go.Proofs.YtfbpbmnlbcnanaaDoor
open Go.Dc
set_option maxRecDepth 10000
def rtTab : List Str := [(⟨[120]⟩ : Str), (⟨[45, 49]⟩ : Str), (⟨[46, 46]⟩ : Str), (⟨[126, 125]⟩ : Str), (⟨[78, 97, 109, 101, 95, 49]⟩ : Str), (⟨[33, 34, 36]⟩ : Str)]
theorem rt_at (x : UInt8) : ∃ t, idx rtTab ((x.toNat : Int).tmod 6) = some t ∧ wordB t = true ∧ t.l.length ≤ 6 := by
  have key : ∀ k : Fin 6, ∃ t, idx rtTab (k.val : Int) = some t ∧ wordB t = true ∧ t.l.length ≤ 6 := by
    intro k
    match k with
    | 0 => exact ⟨_, rfl, by decide, by decide⟩
    | 1 => exact ⟨_, rfl, by decide, by decide⟩
    | 2 => exact ⟨_, rfl, by decide, by decide⟩
    | 3 => exact ⟨_, rfl, by decide, by decide⟩
    | 4 => exact ⟨_, rfl, by decide, by decide⟩
    | 5 => exact ⟨_, rfl, by decide, by decide⟩
  have e : (x.toNat : Int).tmod 6 = ((x.toNat % 6 : Nat) : Int) := by rw [Int.tmod_eq_emod_of_nonneg (by omega)]; omega
  rw [e]
  exact key ⟨x.toNat % 6, by omega⟩
theorem getElem_map_text {ln : Int} {w : List Str} {k : Nat} {x : Word} (h : (wordsAt ln w 0)[k]? = some x) : w[k]? = some x.Text ∧ x.Line = ln := by
  refine ⟨?_, wordsAt_line ln w 0 x (List.mem_of_getElem? h)⟩
  have := congrArg (fun l => l[k]?) (wordsAt_text ln w 0)
  simp only [List.getElem?_map, h, Option.map_some] at this
  exact this.symm
theorem rt_words (l : List (List Str)) (i : Nat) (hi : i ≤ 1000) (w : List Str) (hw : l[i]? = some w) (hwl : w.length ≤ 64) (cont : Nat → Option Bool) :
    iter (law3_WordsRoundTrip_b3 (wordsAt (1 + (i : Int)) w 0) (linesAt 1 l, 0, 0) i l cont) FUEL 0 = cont (i + 1) := by
  have hi1 : idx (linesAt 1 l) (i : Int) = some (wordsAt (1 + (i : Int)) w 0) := by rw [idx_nat, linesAt_get, hw]; rfl
  have hi2 : idx l (i : Int) = some w := by rw [idx_nat]; exact hw
  have := iter_list (B := law3_WordsRoundTrip_b3 (wordsAt (1 + (i : Int)) w 0) (linesAt 1 l, 0, 0) i l cont) (fun (_ : Unit) k => k) (wordsAt (1 + (i : Int)) w 0) (fun _ _ => True) (fun _ _ => cont (i + 1)) ?_ ?_ FUEL () 0 trivial (by omega) (fuel_of (by rw [wordsAt_len]; omega))
  · simpa using this
  · intro c _ k x r _ hdr hk hx hc
    obtain ⟨h1, h2⟩ := getElem_map_text (idx_get hx)
    have hx2 : idx w (k : Int) = some x.Text := by rw [idx_nat]; exact h1
    simp only [law3_WordsRoundTrip_b3]
    rw [if_pos (decide_eq_true (by omega))]
    simp only [hi1, hi2, hx, hx2, Option.bind_some, decide_true, Bool.not_true, Bool.not_false, whn, if_true, h2, Bool.false_or]
    rw [if_neg (by simp; omega), hc () trivial]
  · intro c _ _
    simp only [law3_WordsRoundTrip_b3]
    rw [if_neg (by simp)]
    rfl
theorem rt_lines (l : List (List Str)) (hl : l.length ≤ 1000) (h : ∀ w ∈ l, lineOk w) : iter (law3_WordsRoundTrip_b2 (linesAt 1 l, 0, 0) l) FUEL 0 = some true := by
  have := iter_list (B := law3_WordsRoundTrip_b2 (linesAt 1 l, 0, 0) l) (fun (_ : Unit) k => k) l (fun _ _ => True) (fun _ _ => some true) ?_ ?_ FUEL () 0 trivial (by omega) (fuel_of (by omega))
  · simpa using this
  · intro c _ i w r _ hdr hi hw hc
    have hwi := idx_get hw
    have hi1 : idx (linesAt 1 l) (i : Int) = some (wordsAt (1 + (i : Int)) w 0) := by rw [idx_nat, linesAt_get, hwi]; rfl
    have hok := h w (List.mem_of_getElem? hwi)
    simp only [law3_WordsRoundTrip_b2]
    rw [if_pos (decide_eq_true (by rw [linesAt_len]; omega))]
    simp only [hi1, hw, Option.bind_some]
    rw [wordsAt_len, if_neg (by simp), rt_words l i (by omega) w hwi hok.2.1]
    exact hc () trivial
  · intro c _ _
    simp only [law3_WordsRoundTrip_b2]
    rw [if_neg (by simp [linesAt_len])]
    rfl
theorem bindE {α β : Type} {o : Option α} {x : α} {K : α → Option β} {r : Option β} (h : o = some x) (h2 : K x = r) : o.bind K = r := by rw [h]; exact h2
theorem rt1 (l : List (List Str)) (hl : l.length ≤ 1000) (hs : szL l ≤ 60000) (h : ∀ w ∈ l, lineOk w) : words_Join_m l = some ⟨joinT l⟩ := by
  have e : joinS (joinL l []) = ⟨joinT l⟩ := by rw [joinL_ok l [] h]; rfl
  exact (join_m l (by omega)).trans (congrArg some e)
theorem rt2 (l : List (List Str)) (hl : l.length ≤ 1000) (hs : szL l ≤ 60000) (h : ∀ w ∈ l, lineOk w) : words_Lines_m ⟨joinT l⟩ = some (linesAt 1 l, 0, 0) := by
  have hj := joinT_len l
  exact (lines_m ⟨joinT l⟩).trans (congrArg some (lines_join l h (by omega)))
theorem rt3 (l : List (List Str)) (hl : l.length ≤ 1000) (h : ∀ w ∈ l, lineOk w) (e1 : words_Join_m l = some ⟨joinT l⟩) (e2 : words_Lines_m ⟨joinT l⟩ = some (linesAt 1 l, 0, 0)) : law3_WordsRoundTrip_k1 l () = some true := by
  unfold law3_WordsRoundTrip_k1
  refine bindE e1 (bindE e2 (bindE awake3 ?_))
  refine (if_neg ?_).trans (rt_lines l hl h)
  simp [linesAt_len]
theorem rt_end (l : List (List Str)) (hl : l.length ≤ 1000) (hs : szL l ≤ 60000) (h : ∀ w ∈ l, lineOk w) : law3_WordsRoundTrip_k1 l () = some true :=
  rt3 l hl h (rt1 l hl hs h) (rt2 l hl hs h)
theorem szL_app (a : List (List Str)) (w : List Str) : szL (a ++ [w]) = szL a + (szW w + 1) := by simp [szL]
theorem szW_app (a : List Str) (s : Str) : szW (a ++ [s]) = szW a + (s.l.length + 1) := by simp [szW]
/-- A word is added to the last line. -/
theorem rt_k2 (t : Str) (ht : t.l.length ≤ 6) (a : List (List Str)) (w : List Str) (hw : w.length ≤ 60) (ha : a.length ≤ 1000) (i : Nat) (hi : i ≤ 60) (c : (List (List Str) × Nat) → Option Bool) :
    law3_WordsRoundTrip_k2 t i c (a ++ [w]) = c (a ++ [w ++ [t]], i + 1) := by
  unfold law3_WordsRoundTrip_k2
  have e : (((a ++ [w]).length : Nat) : Int) - 1 = (a.length : Int) := by simp
  have hx : idx (a ++ [w]) ((((a ++ [w]).length : Nat) : Int) - 1) = some w := by rw [e, idx_nat]; simp
  have hb : i64b ((((a ++ [w]).length : Nat) : Int) - 1) = true := by rw [e]; exact i64b_of (by omega) (by omega)
  have hset : (a ++ [w]).set ((((a ++ [w]).length : Nat) : Int) - 1).toNat (w ++ ([t] : List Str)) = a ++ [w ++ [t]] := by rw [e]; simp
  refine (chk_true hb).trans ((chk_true hb).trans (bindE hx ((chk_true ?_).trans (bindE hx ((chk_true (i64b_of (by omega) (by omega))).trans ?_)))))
  · simp; omega
  · rw [hset]
theorem rt_loop (p : List UInt8) (cut : Int) (hc : 0 ≤ cut ∧ cut ≤ 255) : iter (law3_WordsRoundTrip_b1 p cut) FUEL ([], 0) = some true := by
  have hm : 0 ≤ cut.tmod 7 ∧ cut.tmod 7 < 7 := ⟨Int.tmod_nonneg _ hc.1, Int.tmod_lt_of_pos _ (by omega)⟩
  have hw : IntKind.i64.wrap (cut.tmod 7) = cut.tmod 7 := by
    generalize cut.tmod 7 = x at hm
    unfold IntKind.wrap
    simp [IntKind.signed, IntKind.bits]
    omega
  have key : ∀ (n i : Nat) (m : List (List Str)), 60 - i < n → i ≤ 60 → (0 < i → m ≠ []) → m.length ≤ i → szL m ≤ i * 10 → (∀ w ∈ m, 0 < w.length ∧ w.length ≤ i ∧ w.all wordB = true) → iter (law3_WordsRoundTrip_b1 p cut) n (m, i) = some true := by
    intro n
    induction n with
    | zero => intro i m h; omega
    | succ n ih =>
      intro i m hn hi hne hml hz hok
      show law3_WordsRoundTrip_b1 p cut (iter _ n) (m, i) = _
      simp only [law3_WordsRoundTrip_b1]
      by_cases hcc : i < p.length ∧ i < 60
      · obtain ⟨x, hx⟩ : ∃ x, idx p (i : Int) = some x := by rw [idx_nat]; exact ⟨p[i], List.getElem?_eq_getElem hcc.1⟩
        obtain ⟨t, ht, htw, htl⟩ := rt_at x
        have ht' := ht
        unfold rtTab at ht'
        rw [if_pos (by simp; omega), hx, Option.bind_some, ht', Option.bind_some, hw, chk_true (i64b_of (by omega) (by omega)), chk_true (decide_eq_true (by omega))]
        -- the lists with one word more
        have add : ∀ (a : List (List Str)) (w : List Str), a.length ≤ i → w.length ≤ i → w.all wordB = true → szL a + szW w + 1 ≤ i * 10 + 1 → (∀ w ∈ a, 0 < w.length ∧ w.length ≤ i ∧ w.all wordB = true) →
            law3_WordsRoundTrip_k2 t i (iter (law3_WordsRoundTrip_b1 p cut) n) (a ++ [w]) = some true := by
          intro a w ha hwl hww hzz haok
          rw [rt_k2 t htl a w (by omega) (by omega) i (by omega)]
          refine ih (i + 1) _ (by omega) (by omega) (by simp) (by simp; omega) ?_ ?_
          · rw [szL_app, szW_app]; omega
          · intro v hv
            rcases List.mem_append.1 hv with hv | hv
            · obtain ⟨h1, h2, h3⟩ := haok v hv
              exact ⟨h1, by omega, h3⟩
            · simp only [List.mem_singleton] at hv
              subst hv
              refine ⟨by simp, by simp; omega, ?_⟩
              rw [List.all_append, hww]
              simp [htw]
        by_cases hmod : (i : Int).tmod (1 + cut.tmod 7) = 0
        · rw [if_pos (decide_eq_true hmod), chk_true (by simp; omega)]
          exact add m [] hml (by simp) rfl (by simp [szW]; omega) hok
        · rw [if_neg (by simpa using hmod)]
          have h0 : 0 < i := by
            rcases Nat.eq_zero_or_pos i with h | h
            · subst h; exact absurd (by simp) hmod
            · exact h
          have hmne := hne h0
          have hd : m = m.dropLast ++ [m.getLast hmne] := (List.dropLast_concat_getLast hmne).symm
          have hlast := hok _ (List.getLast_mem hmne)
          rw [hd] at hz ⊢
          rw [szL_app] at hz
          refine add m.dropLast (m.getLast hmne) (by simp; omega) hlast.2.1 hlast.2.2 (by omega) (fun v hv => hok v (List.dropLast_subset _ hv))
      · rw [if_neg (by simp; omega)]
        exact rt_end m (by omega) (by omega) (fun w hw => ⟨(hok w hw).1, by have := (hok w hw).2.1; omega, (hok w hw).2.2⟩)
  exact key FUEL 0 [] (fuel_of (by omega)) (by omega) (by simp) (by simp) (by simp [szL]) (by simp)
theorem wordsRoundTrip_plain (p : List UInt8) (cut : Int) (_ : Wf.wf p) (hc : 0 ≤ cut ∧ cut ≤ 255) : law3_WordsRoundTrip_m p cut = some true := rt_loop p cut hc
end Go.Proofs.YtfbpbmnlbcnanaaDoor

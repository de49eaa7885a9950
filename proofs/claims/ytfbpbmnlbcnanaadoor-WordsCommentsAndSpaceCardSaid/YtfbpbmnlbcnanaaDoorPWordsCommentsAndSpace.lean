/- WordsCommentsAndSpace, the plain law. -/
import Derived.Test.YtfbpbmnlbcnanaaDoorVf
import Derived.Test.YtfbpbmnlbcnanaaDoorWWordsCommentsAndSpace
import Derived.Laws.RangeAny
namespace Go.Proofs.YtfbpbmnlbcnanaaDoor
open Go.Dc
set_option maxRecDepth 10000
set_option linter.unusedSimpArgs false
theorem bindE {α β : Type} {o : Option α} {x : α} {K : α → Option β} {r : Option β} (h : o = some x) (h2 : K x = r) : o.bind K = r := by rw [h]; exact h2

/-! ### The texts -/
def pieceU (s : List UInt8) (w : Str) : List UInt8 := [32, 9] ++ w.l ++ [32, 32, 35] ++ s
def uT (s : List UInt8) : List Str → List UInt8
  | [] => []
  | w :: r => pieceU s w ++ 10 :: 10 :: uT s r
def linesU : Int → List Str → List (List Word)
  | _, [] => []
  | ln, w :: r => [⟨w, ln, 3⟩] :: linesU (ln + 2) r
theorem uT_app (s : List UInt8) : ∀ (ws : List Str) (w : Str), uT s (ws ++ [w]) = uT s ws ++ (pieceU s w ++ [10, 10])
  | [], w => by simp [uT]
  | v :: r, w => by simp [uT, uT_app s r w]
theorem joinT_app : ∀ (ws : List Str) (w : Str), joinT ((ws ++ [w]).map (fun x => [x])) = joinT (ws.map (fun x => [x])) ++ (w.l ++ [10])
  | [], w => by simp [joinT, wlF]
  | v :: r, w => by
    have := joinT_app r w
    simp only [List.map_append, List.map_cons, List.map_nil] at this
    simp [joinT, wlF, this]
theorem toks_u (ln : Int) (s : List UInt8) (w : Str) (h : wordB w = true) : toks ln (pieceU s w) = some [⟨w, ln, 3⟩] := by
  unfold toks pieceU
  have e : [32, 9] ++ w.l ++ [32, 32, 35] ++ s = 32 :: 9 :: (w.l ++ (32 :: 32 :: 35 :: s)) := by simp
  rw [e]
  have e1 : tk ln (32 :: 9 :: (w.l ++ (32 :: 32 :: 35 :: s))) 0 false [] = tk ln (w.l ++ (32 :: 32 :: 35 :: s)) 2 false [] := rfl
  rw [e1, tk_start ln w _ _ _ h]
  rfl
theorem u_not10 (s : List UInt8) (hs : 10 ∉ s) (w : Str) (h : wordB w = true) : 10 ∉ pieceU s w := by
  have := word_not10 h
  unfold pieceU
  simp [this, hs]
theorem nl_u (s : List UInt8) (hs : 10 ∉ s) : ∀ (ws : List Str), (∀ w ∈ ws, wordB w = true) → splitNL (uT s ws) = (ws.map (fun w => [pieceU s w, []])).flatten ++ [[]]
  | [], _ => rfl
  | w :: r, h => by
    simp only [uT]
    have h2 := nl_some [] (uT s r) (by simp)
    rw [List.nil_append] at h2
    rw [nl_some _ _ (u_not10 s hs w (h w List.mem_cons_self)), h2, nl_u s hs r (fun x hx => h x (List.mem_cons_of_mem _ hx))]
    rfl
theorem lns_u (s : List UInt8) : ∀ (ws : List Str) (ln : Int) (acc : List (List Word)), (∀ w ∈ ws, wordB w = true) → lnsF ln ((ws.map (fun w => [pieceU s w, []])).flatten ++ [[]]) acc = (acc ++ linesU ln ws, 0, 0)
  | [], ln, acc, _ => by
    simp only [List.map_nil, List.flatten_nil, List.nil_append, linesU, List.append_nil]
    rfl
  | w :: r, ln, acc, h => by
    have ih := lns_u s r (ln + 2) (acc ++ [[⟨w, ln, 3⟩]]) (fun x hx => h x (List.mem_cons_of_mem _ hx))
    have e : ((w :: r).map (fun w => [pieceU s w, []])).flatten ++ [[]] = pieceU s w :: [] :: ((r.map (fun w => [pieceU s w, []])).flatten ++ [[]]) := by simp
    have e2 : ∀ q a, lnsF (ln + 1) ([] :: q) a = lnsF (ln + 1 + 1) q a := fun _ _ => rfl
    rw [e]
    simp only [lnsF]
    rw [toks_u ln s w (h w List.mem_cons_self)]
    simp only [List.length_singleton]
    rw [if_neg (by omega), if_pos (by omega)]
    have e3 := e2 ((r.map (fun w => [pieceU s w, []])).flatten ++ [[]]) (acc ++ [[⟨w, ln, 3⟩]])
    simp only [lnsF] at e3
    rw [e3, show ln + 1 + 1 = ln + 2 by omega, ih]
    simp [linesU]
theorem lines_u (s : List UInt8) (hs : 10 ∉ s) (ws : List Str) (h : ∀ w ∈ ws, wordB w = true) (hl : (uT s ws).length ≤ 65536) : linesR (uT s ws) = (linesU 1 ws, 0, 0) := by
  unfold linesR
  rw [if_neg (by omega), nl_u s hs ws h, lns_u s ws 1 [] h]
  rfl
theorem linesU_len : ∀ (ws : List Str) (ln : Int), (linesU ln ws).length = ws.length
  | [], _ => rfl
  | w :: r, ln => by simp [linesU, linesU_len r]
theorem linesU_get : ∀ (ws : List Str) (ln : Int) (i : Nat), (linesU ln ws)[i]? = (ws[i]?).map (fun w => [⟨w, ln + 2 * (i : Int), 3⟩])
  | [], _, i => by simp [linesU]
  | w :: r, ln, 0 => by simp [linesU]
  | w :: r, ln, i + 1 => by
    simp only [linesU, List.getElem?_cons_succ]
    rw [linesU_get r (ln + 2) i]
    have : ln + 2 + 2 * (i : Int) = ln + 2 * ((i + 1 : Nat) : Int) := by omega
    rw [this]

/-! ### The end -/
theorem cs_loop (ws : List Str) (hl : ws.length ≤ 1000) : iter (law3_WordsCommentsAndSpace_b3 (linesAt 1 (ws.map (fun x => [x])), 0, 0) (linesU 1 ws, 0, 0)) FUEL 0 = some true := by
  have := iter_list (B := law3_WordsCommentsAndSpace_b3 (linesAt 1 (ws.map (fun x => [x])), 0, 0) (linesU 1 ws, 0, 0)) (fun (_ : Unit) k => k) ws (fun _ _ => True) (fun _ _ => some true) ?_ ?_ FUEL () 0 trivial (by omega) (fuel_of (by omega))
  · simpa using this
  · intro c _ i w r _ hdr hi hw hc
    have hwi := idx_get hw
    have hA : idx (linesAt 1 (ws.map (fun x => [x]))) (i : Int) = some [⟨w, 1 + (i : Int), 1⟩] := by
      rw [idx_nat, linesAt_get, List.getElem?_map, hwi]; rfl
    have hB : idx (linesU 1 ws) (i : Int) = some [⟨w, 2 * (i : Int) + 1, 3⟩] := by
      rw [idx_nat, linesU_get, hwi]
      have : (1 : Int) + 2 * (i : Int) = 2 * (i : Int) + 1 := by omega
      rw [Option.map_some, this]
    have h0 : ∀ x : Word, idx [x] 0 = some x := fun _ => rfl
    have i1 : i64b (2 * (i : Int)) = true := i64b_of (by omega) (by omega)
    have i2 : i64b (2 * (i : Int) + 1) = true := i64b_of (by omega) (by omega)
    have hcc := hc () trivial
    simp only [law3_WordsCommentsAndSpace_b3]
    refine (if_pos (decide_eq_true (by rw [linesAt_len]; simp; omega))).trans ?_
    refine bindE hA ?_
    refine bindE (o := whn _ _ _) hB ?_
    refine (if_pos (by simp)).trans ?_
    refine bindE (o := whn _ _ _) hA ?_
    refine (if_pos (by simp)).trans ?_
    refine bindE (h0 _) (bindE hB (bindE (h0 _) ?_))
    refine bindE (o := whn _ _ _) (x := [⟨w, 2 * (i : Int) + 1, 3⟩]) (by simp [whn, hB]) ?_
    refine (if_pos (by simp)).trans ?_
    refine bindE (h0 _) ((chk_true i1).trans ((chk_true i2).trans ?_))
    refine bindE (o := whn _ _ _) (x := [⟨w, 2 * (i : Int) + 1, 3⟩]) (by simp [whn, hB]) ?_
    refine (if_pos (by simp)).trans ?_
    refine bindE (h0 _) ?_
    exact (if_neg (by simp)).trans hcc
  · intro c _ _
    simp only [law3_WordsCommentsAndSpace_b3]
    rw [if_neg (by simp [linesAt_len])]
    rfl
theorem lineOk1 {w : Str} (h : wordB w = true) : lineOk [w] := ⟨by simp, by simp, by simp [h]⟩
theorem cs_end (s : List UInt8) (hs : 10 ∉ s) (ws : List Str) (hl : ws.length ≤ 1000) (h : ∀ w ∈ ws, wordB w = true) (h1 : (joinT (ws.map (fun x => [x]))).length ≤ 65536) (h2 : (uT s ws).length ≤ 65536) :
    law3_WordsCommentsAndSpace_k2 ⟨joinT (ws.map (fun x => [x]))⟩ ⟨uT s ws⟩ () = some true := by
  unfold law3_WordsCommentsAndSpace_k2
  have e1 : words_Lines_m ⟨joinT (ws.map (fun x => [x]))⟩ = some (linesAt 1 (ws.map (fun x => [x])), 0, 0) :=
    (lines_m _).trans (congrArg some (lines_join _ (fun v hv => by obtain ⟨w, hw, rfl⟩ := List.mem_map.1 hv; exact lineOk1 (h w hw)) h1))
  have e2 : words_Lines_m ⟨uT s ws⟩ = some (linesU 1 ws, 0, 0) := (lines_m _).trans (congrArg some (lines_u s hs ws h h2))
  refine bindE e1 (bindE e2 (bindE awake3 ?_))
  refine (if_neg ?_).trans (cs_loop ws hl)
  simp [linesAt_len, linesU_len]

/-! ### The loops before -/
def csTab : List Str := [(⟨[97]⟩ : Str), (⟨[49, 50]⟩ : Str), (⟨[117, 112]⟩ : Str), (⟨[45]⟩ : Str)]
theorem cs_at (x : UInt8) : ∃ t, idx csTab ((x.toNat : Int).tmod 4) = some t ∧ wordB t = true ∧ t.l.length ≤ 2 := by
  have key : ∀ k : Fin 4, ∃ t, idx csTab (k.val : Int) = some t ∧ wordB t = true ∧ t.l.length ≤ 2 := by
    intro k
    match k with
    | 0 => exact ⟨_, rfl, by decide, by decide⟩
    | 1 => exact ⟨_, rfl, by decide, by decide⟩
    | 2 => exact ⟨_, rfl, by decide, by decide⟩
    | 3 => exact ⟨_, rfl, by decide, by decide⟩
  have e : (x.toNat : Int).tmod 4 = ((x.toNat % 4 : Nat) : Int) := by rw [Int.tmod_eq_emod_of_nonneg (by omega)]; omega
  rw [e]
  exact key ⟨x.toNat % 4, by omega⟩
theorem cs_mid (l : List UInt8) (s : List UInt8) (hs : 10 ∉ s) (hsl : s.length ≤ 50) : law3_WordsCommentsAndSpace_k1 l ⟨s⟩ () = some true := by
  unfold law3_WordsCommentsAndSpace_k1
  have key : ∀ (n i : Nat) (ws : List Str), 30 - i < n → i ≤ 30 → ws.length ≤ i → (∀ w ∈ ws, wordB w = true) → (joinT (ws.map (fun x => [x]))).length ≤ i * 3 → (uT s ws).length ≤ i * 60 →
      iter (law3_WordsCommentsAndSpace_b2 l ⟨s⟩) n (⟨joinT (ws.map (fun x => [x]))⟩, ⟨uT s ws⟩, i) = some true := by
    intro n
    induction n with
    | zero => intro i ws h; omega
    | succ n ih =>
      intro i ws hn hi hwl hw h1 h2
      show law3_WordsCommentsAndSpace_b2 l ⟨s⟩ (iter _ n) (⟨joinT (ws.map (fun x => [x]))⟩, ⟨uT s ws⟩, i) = _
      simp only [law3_WordsCommentsAndSpace_b2]
      by_cases hcc : i < l.length ∧ i < 30
      · obtain ⟨x, hx⟩ : ∃ x, idx l (i : Int) = some x := by rw [idx_nat]; exact ⟨l[i], List.getElem?_eq_getElem hcc.1⟩
        obtain ⟨⟨t⟩, ht, htw, htl⟩ := cs_at x
        simp only at htl
        refine (if_pos (by simp; omega)).trans ?_
        refine bindE hx (bindE (o := idx csTab _) ht ?_)
        refine bindE (cat_m _ _ (by simp; omega)) (bindE (cat_m _ _ (by simp; omega)) (bindE (cat_m _ _ (by simp; omega)) (bindE (cat_m _ _ (by simp; omega)) (bindE (cat_m _ _ (by simp; omega)) (bindE (cat_m _ _ (by simp; omega)) (bindE (cat_m _ _ (by simp; omega)) ((chk_true (i64b_of (by omega) (by omega))).trans ?_)))))))
        have e1 : joinT (ws.map (fun x => [x])) ++ (t ++ [10]) = joinT ((ws ++ [(⟨t⟩ : Str)]).map (fun x => [x])) := (joinT_app ws (⟨t⟩ : Str)).symm
        have e2 : uT s ws ++ ([32, 9] ++ t ++ [32, 32, 35] ++ s ++ [10, 10]) = uT s (ws ++ [(⟨t⟩ : Str)]) := by rw [uT_app]; rfl
        rw [e1, e2]
        refine ih (i + 1) (ws ++ [(⟨t⟩ : Str)]) (by omega) (by omega) (by simp; omega) (fun w hm => ?_) ?_ ?_
        · rcases List.mem_append.1 hm with hm | hm
          · exact hw w hm
          · simp only [List.mem_singleton] at hm; subst hm; exact htw
        · rw [← e1]; simp; omega
        · rw [← e2]; simp; omega
      · refine (if_neg (by simp; omega)).trans ?_
        exact cs_end s hs ws (by omega) hw (by omega) (by omega)
  exact key FUEL 0 [] (fuel_of (by omega)) (by omega) (by simp) (by simp) (by simp [joinT]) (by simp [uT])
theorem decode_pos (s : Str) (pos : Nat) (h : pos < s.l.length) : 1 ≤ (Utf8.decode s.ba pos).2 := by
  have hp : pos < s.ba.size := by rw [Str.ba_size]; exact h
  by_cases ha : (s.ba[pos]'hp).toNat < 128
  · rw [decode_ascii s.ba pos hp ha]
    exact Nat.le_refl _
  · exact (decode_high s.ba pos hp (by omega)).2
theorem cs_start (l : List UInt8) (c : Str) (hc : c.l.length ≤ 140737488351232) : iter (law3_WordsCommentsAndSpace_b1 c l) FUEL (⟨[]⟩, 0) = some true := by
  have key : ∀ (n pos : Nat) (s : List UInt8), c.l.length - pos < n → s.length ≤ pos → s.length ≤ 50 → 10 ∉ s → iter (law3_WordsCommentsAndSpace_b1 c l) n (⟨s⟩, pos) = some true := by
    intro n
    induction n with
    | zero => intro pos s h; omega
    | succ n ih =>
      intro pos s hn hsl hs50 hs
      show law3_WordsCommentsAndSpace_b1 c l (iter _ n) (⟨s⟩, pos) = _
      simp only [law3_WordsCommentsAndSpace_b1]
      by_cases hp : pos < c.l.length
      · have hd := decode_pos c pos hp
        refine (if_pos (decide_eq_true hp)).trans ?_
        obtain ⟨cl⟩ := c
        simp only at hp hn hc
        have hx : cl[pos]? = some cl[pos] := List.getElem?_eq_getElem hp
        have hb := byteAt_get (s := ⟨cl⟩) hx
        by_cases h50 : pos < 50
        · refine bindE (o := whn _ _ _) (x := (cl[pos].toNat : Int)) (by rw [whn_t (by simp; omega)]; exact hb) ?_
          by_cases h10 : cl[pos].toNat = 10
          · refine (if_neg (by simp; omega)).trans ?_
            exact ih _ s (by simp only; omega) (by omega) hs50 hs
          · refine (if_pos (by simp; omega)).trans ?_
            have hsub : strSub ⟨cl⟩ (pos : Int) ((pos : Int) + 1) = some ⟨[cl[pos]]⟩ := by
              unfold strSub
              rw [if_pos ⟨by omega, by omega, by show (pos : Int) + 1 ≤ (cl.length : Int); omega⟩]
              have e1 : ((pos : Int) + 1).toNat = pos + 1 := by omega
              rw [e1]
              simp only [Int.toNat_natCast]
              congr 2
              rw [List.take_add_one, List.getElem?_eq_getElem hp, List.drop_append, List.drop_eq_nil_of_le (by simp; omega)]
              simp [Nat.min_eq_left (Nat.le_of_lt hp)]
            refine (chk_true (i64b_of (by omega) (by omega))).trans (bindE hsub (bindE (cat_m _ _ (by simp; omega)) ?_))
            refine ih _ _ (by simp only; omega) (by simp; omega) (by simp; omega) ?_
            simp only [List.mem_append, List.mem_singleton]
            rintro (h | h)
            · exact hs h
            · exact h10 (by rw [← h]; rfl)
        · refine bindE (o := whn _ _ _) (x := 0) (by rw [whn_f (by simp; omega)]) ?_
          refine (if_neg (by simp; omega)).trans ?_
          exact ih _ s (by simp only; omega) (by omega) hs50 hs
      · refine (if_neg (by simpa using hp)).trans ?_
        exact cs_mid l s hs hs50
  exact key FUEL 0 [] (fuel_of (by omega)) (by simp) (by simp) (by simp)
theorem wordsCommentsAndSpace_plain (l : List UInt8) (c : Str) (_ : Wf.wf l) (hc : Wf.wf c) : law3_WordsCommentsAndSpace_m l c = some true := cs_start l c hc
end Go.Proofs.YtfbpbmnlbcnanaaDoor

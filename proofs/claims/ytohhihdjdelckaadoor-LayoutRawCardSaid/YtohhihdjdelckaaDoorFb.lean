/- The text of a valid layout: the program's Format and the reference's one write the same lines. -/
import Derived.Test.YtohhihdjdelckaaDoorFn
import Derived.Test.YtohhihdjdelckaaDoorFa
import Derived.Test.YtohhihdjdelckaaDoorLd
import Derived.Test.YtohhihdjdelckaaDoorRd
set_option linter.all false
namespace Go.Proofs.YtohhihdjdelckaaDoor
open Go.Dc
set_option maxRecDepth 10000
theorem bindE {α β : Type} {o : Option α} {x : α} {K : α → Option β} {r : Option β} (h : o = some x) (h2 : K x = r) : o.bind K = r := by rw [h]; exact h2

def sW : Str := ⟨[115, 116, 97, 116, 105, 111, 110]⟩
def pW : Str := ⟨[112, 111, 105, 110, 116]⟩
def cW : Str := ⟨[115, 101, 99, 116, 105, 111, 110]⟩
def kW : Str := ⟨[108, 105, 110, 107]⟩
def aW : Str := ⟨[97, 116]⟩
def nI (v : Int) : Str := ⟨Lib.itoa v⟩
def endW (e : Int) : Str := if e = 0 then ⟨[65]⟩ else ⟨[66]⟩
def stN (l : Layout) (i : Int) : Str := l.Stations.getD i.toNat default
def ptN (l : Layout) (i : Int) : Str := l.Points.getD i.toNat default
def scN (l : Layout) (i : Int) : Str := (l.Sections.getD i.toNat default).Name
def scLine (l : Layout) (s : Section) : List Str := [cW, s.Name, nI s.Length, nI s.Limit, nI s.Grade] ++ if s.Station = -1 then [] else [aW, stN l s.Station]
def kLine (l : Layout) (k : Link) : List Str := [kW, scN l k.A, endW k.AEnd, scN l k.B, endW k.BEnd] ++ if k.Point = -1 then [] else [ptN l k.Point, nI k.Pos]
def fmtL (l : Layout) : List (List Str) := ((l.Stations.map (fun s => [sW, s]) ++ l.Points.map (fun s => [pW, s])) ++ l.Sections.map (scLine l)) ++ l.Links.map (kLine l)

theorem getD_idx {α : Type} [Inhabited α] {xs : List α} {i : Int} (h0 : 0 ≤ i) (h : i < xs.length) : idx xs i = some (xs.getD i.toNat default) := idx_of_lt h0 h
theorem getD_mem {α : Type} [Inhabited α] {xs : List α} {i : Int} (h0 : 0 ≤ i) (h : i < xs.length) : xs.getD i.toNat default ∈ xs := by
  have : i.toNat < xs.length := by omega
  rw [List.getD_eq_getElem?_getD, List.getElem?_eq_getElem this]
  exact List.getElem_mem this
theorem itoa_m (v : Int) (h1 : -9223372036854775808 ≤ v) (h2 : v ≤ 9223372036854775807) : strconv_Itoa_m v = some (nI v) := by
  unfold strconv_Itoa_m
  rw [if_pos ⟨h1, h2⟩]; rfl
theorem end_idx {e : Int} (h : e = 0 ∨ e = 1) : idx ([(⟨[65]⟩ : Str), (⟨[66]⟩ : Str)] : List Str) e = some (endW e) := by
  rcases h with h | h <;> (subst h; rfl)
theorem end_sub {e : Int} (h : e = 0 ∨ e = 1) : strSub (⟨[65, 66]⟩ : Str) e (e + 1) = some (endW e) := by
  rcases h with h | h <;> (subst h; rfl)
theorem endW_len (e : Int) : (endW e).l.length = 1 := by unfold endW; split <;> rfl
theorem endW_word (e : Int) : wordB (endW e) = true := by unfold endW; split <;> decide

/-! ### Every line can be joined -/
theorem scLine_ok {l : Layout} (v : ValN l) {s : Section} (hs : s ∈ l.Sections) : lineOk (scLine l s) ∧ (wlF true (scLine l s)).length ≤ 200 := by
  have h1 := v.scw s hs
  have h2 := v.secs s hs
  have h3 := v.scs s hs
  have l1 := itoa_len s.Length (by omega) (by omega)
  have l2 := itoa_len s.Limit (by omega) (by omega)
  have l3 := itoa_len s.Grade (by omega) (by omega)
  have w1 := itoa_word s.Length; have w2 := itoa_word s.Limit; have w3 := itoa_word s.Grade
  have c : wordB cW = true := by decide
  have a : wordB aW = true := by decide
  unfold scLine
  by_cases hst : s.Station = -1
  · rw [if_pos hst]
    refine ⟨⟨by simp, by simp, by simp [c, h1.1, nI, w1, w2, w3]⟩, ?_⟩
    simp [wlF, cW, nI]; omega
  · rw [if_neg hst]
    have hm := v.stw (stN l s.Station) (getD_mem (by omega) (by omega))
    refine ⟨⟨by simp, by simp, by simp [c, a, h1.1, nI, w1, w2, w3, hm.1]⟩, ?_⟩
    have := hm.2
    simp [wlF, cW, aW, nI]; omega
theorem kLine_ok {l : Layout} (v : ValN l) {k : Link} (hk : k ∈ l.Links) : lineOk (kLine l k) ∧ (wlF true (kLine l k)).length ≤ 200 := by
  obtain ⟨hA, hB, _, _, hP, _⟩ := v.links k hk
  have hp := v.pos k hk
  have m1 := v.scw _ (getD_mem hA.1 hA.2)
  have m2 := v.scw _ (getD_mem hB.1 hB.2)
  have l3 := itoa_len k.Pos (by omega) (by omega)
  have w3 := itoa_word k.Pos
  have c : wordB kW = true := by decide
  have e1 := endW_word k.AEnd; have e2 := endW_word k.BEnd
  have f1 := endW_len k.AEnd; have f2 := endW_len k.BEnd
  have n1 : (scN l k.A).l.length ≤ 12 := m1.2
  have n2 : (scN l k.B).l.length ≤ 12 := m2.2
  have q1 : wordB (scN l k.A) = true := m1.1
  have q2 : wordB (scN l k.B) = true := m2.1
  unfold kLine
  by_cases hst : k.Point = -1
  · rw [if_pos hst]
    refine ⟨⟨by simp, by simp, by simp [c, q1, q2, e1, e2]⟩, ?_⟩
    simp [wlF, kW, f1, f2]; omega
  · rw [if_neg hst]
    have hm := v.ptw (ptN l k.Point) (getD_mem (by omega) (by omega))
    have := hm.2
    refine ⟨⟨by simp, by simp, by simp [c, q1, q2, e1, e2, hm.1, nI, w3]⟩, ?_⟩
    simp [wlF, kW, f1, f2, nI]; omega
theorem stLine_ok {l : Layout} (v : ValN l) {s : Str} (hs : s ∈ l.Stations) : lineOk [sW, s] ∧ (wlF true [sW, s]).length ≤ 200 := by
  have h := v.stw s hs
  have c : wordB sW = true := by decide
  refine ⟨⟨by simp, by simp, by simp [c, h.1]⟩, ?_⟩
  have := h.2
  simp [wlF, sW]; omega
theorem ptLine_ok {l : Layout} (v : ValN l) {s : Str} (hs : s ∈ l.Points) : lineOk [pW, s] ∧ (wlF true [pW, s]).length ≤ 200 := by
  have h := v.ptw s hs
  have c : wordB pW = true := by decide
  refine ⟨⟨by simp, by simp, by simp [c, h.1]⟩, ?_⟩
  have := h.2
  simp [wlF, pW]; omega
theorem fmt_ok {l : Layout} (v : ValN l) : ∀ w ∈ fmtL l, lineOk w ∧ (wlF true w).length ≤ 200 := by
  intro w hw
  unfold fmtL at hw
  rcases List.mem_append.1 hw with hw | hw
  · rcases List.mem_append.1 hw with hw | hw
    · rcases List.mem_append.1 hw with hw | hw
      · obtain ⟨s, hs, rfl⟩ := List.mem_map.1 hw; exact stLine_ok v hs
      · obtain ⟨s, hs, rfl⟩ := List.mem_map.1 hw; exact ptLine_ok v hs
    · obtain ⟨s, hs, rfl⟩ := List.mem_map.1 hw; exact scLine_ok v hs
  · obtain ⟨s, hs, rfl⟩ := List.mem_map.1 hw; exact kLine_ok v hs
theorem joinT_snoc : ∀ (a : List (List Str)) (w : List Str), joinT (a ++ [w]) = joinT a ++ (wlF true w ++ [10])
  | [], w => by simp [joinT]
  | v :: r, w => by simp [joinT, joinT_snoc r w]
theorem joinT_le : ∀ (a : List (List Str)), (∀ w ∈ a, (wlF true w).length ≤ 200) → (joinT a).length ≤ a.length * 201
  | [], _ => by simp [joinT]
  | v :: r, h => by
    have h1 := h v List.mem_cons_self
    have h2 := joinT_le r (fun w hw => h w (List.mem_cons_of_mem _ hw))
    simp only [joinT, List.length_append, List.length_cons]
    omega
theorem fmt_len {l : Layout} (v : ValN l) : (fmtL l).length ≤ 360 := by
  have := v.full
  simp [fmtL]; omega
theorem szW_wl (w : List Str) : szW w ≤ (wlF true w).length + 1 := by
  have key : ∀ r : List Str, szW r = (wlF false r).length := by
    intro r
    induction r with
    | nil => simp [szW, wlF]
    | cons s r ih => rw [szW_cons, ih]; simp [wlF]; omega
  cases w with
  | nil => simp [szW]
  | cons s r => rw [szW_cons, key]; simp [wlF]; omega
theorem szL_le : ∀ (a : List (List Str)), (∀ w ∈ a, (wlF true w).length ≤ 200) → szL a ≤ a.length * 202
  | [], _ => by simp [szL]
  | v :: r, h => by
    have h1 := h v List.mem_cons_self
    have h2 := szL_le r (fun w hw => h w (List.mem_cons_of_mem _ hw))
    have h3 := szW_wl v
    rw [szL_cons]
    simp only [List.length_cons]
    omega

/-! ### The program's Format -/
theorem fmt4 {l : Layout} (v : ValN l) (acc : List (List Str)) (hacc : acc.length ≤ 168) :
    iter (layout_Format_b4 l) FUEL (acc, 0) = words_Join_m (acc ++ l.Links.map (kLine l)) := by
  have hf := v.full
  have := iter_list (B := layout_Format_b4 l) (fun (q : List (List Str)) i => (q, i)) l.Links (fun q i => q.length ≤ 168 + i) (fun q r => words_Join_m (q ++ r.map (kLine l))) ?_ ?_ FUEL acc 0 (by omega) (by omega) (fuel_of (by omega))
  · simpa using this
  · intro c q i k r hq hdr hi hx hk
    have hm := List.mem_of_getElem? (idx_get hx)
    obtain ⟨hA, hB, hE, hG, hP, _⟩ := v.links k hm
    have hp := v.pos k hm
    simp only [layout_Format_b4]
    refine (if_pos (decide_eq_true (by omega))).trans (bindE hx (bindE (getD_idx hA.1 hA.2) (bindE (end_idx hE) (bindE (getD_idx hB.1 hB.2) (bindE (end_idx hG) ?_)))))
    by_cases hpt : k.Point = -1
    · refine (if_neg (by simpa using hpt)).trans ?_
      unfold layout_Format_k6
      refine (chk_true (by simp; omega)).trans ?_
      rw [hk _ (by simp; omega)]
      simp [kLine, hpt, scN, kW]
    · refine (if_pos (by simpa using hpt)).trans (bindE (getD_idx (by omega) hP.2) (bindE (itoa_m _ (by omega) (by omega)) ((chk_true (by simp)).trans ?_)))
      unfold layout_Format_k6
      refine (chk_true (by simp; omega)).trans ?_
      rw [hk _ (by simp; omega)]
      simp [kLine, hpt, scN, kW, ptN]
  · intro c q hq
    simp only [layout_Format_b4]
    rw [if_neg (by simp)]
    unfold layout_Format_k5
    rw [List.map_nil, List.append_nil]
    cases words_Join_m q <;> rfl
theorem fmt3 {l : Layout} (v : ValN l) (acc : List (List Str)) (hacc : acc.length ≤ 72) :
    iter (layout_Format_b3 l) FUEL (acc, 0) = words_Join_m ((acc ++ l.Sections.map (scLine l)) ++ l.Links.map (kLine l)) := by
  have hf := v.full
  have := iter_list (B := layout_Format_b3 l) (fun (q : List (List Str)) i => (q, i)) l.Sections (fun q i => q.length ≤ 72 + i) (fun q r => words_Join_m ((q ++ r.map (scLine l)) ++ l.Links.map (kLine l))) ?_ ?_ FUEL acc 0 (by omega) (by omega) (fuel_of (by omega))
  · simpa using this
  · intro c q i s r hq hdr hi hx hk
    have hm := List.mem_of_getElem? (idx_get hx)
    have h2 := v.secs s hm
    have h3 := v.scs s hm
    simp only [layout_Format_b3]
    refine (if_pos (decide_eq_true (by omega))).trans (bindE hx (bindE (itoa_m _ (by omega) (by omega)) (bindE (itoa_m _ (by omega) (by omega)) (bindE (itoa_m _ (by omega) (by omega)) ?_))))
    by_cases hst : s.Station = -1
    · refine (if_neg (by simpa using hst)).trans ?_
      unfold layout_Format_k4
      refine (chk_true (by simp; omega)).trans ?_
      rw [hk _ (by simp; omega)]
      simp [scLine, hst, cW]
    · refine (if_pos (by simpa using hst)).trans (bindE (getD_idx (by omega) h3.2) ((chk_true (by simp)).trans ?_))
      unfold layout_Format_k4
      refine (chk_true (by simp; omega)).trans ?_
      rw [hk _ (by simp; omega)]
      simp [scLine, hst, cW, aW, stN]
  · intro c q hq
    simp only [layout_Format_b3]
    rw [if_neg (by simp)]
    unfold layout_Format_k3
    rw [fmt4 v q (by omega), List.map_nil, List.append_nil]
theorem fmt2 {l : Layout} (v : ValN l) (acc : List (List Str)) (hacc : acc.length ≤ 24) :
    iter (layout_Format_b2 l) FUEL (acc, 0) = words_Join_m (((acc ++ l.Points.map (fun s => [pW, s])) ++ l.Sections.map (scLine l)) ++ l.Links.map (kLine l)) := by
  have hf := v.full
  have := iter_list (B := layout_Format_b2 l) (fun (q : List (List Str)) i => (q, i)) l.Points (fun q i => q.length ≤ 24 + i) (fun q r => words_Join_m (((q ++ r.map (fun s => [pW, s])) ++ l.Sections.map (scLine l)) ++ l.Links.map (kLine l))) ?_ ?_ FUEL acc 0 (by omega) (by omega) (fuel_of (by omega))
  · simpa using this
  · intro c q i s r hq hdr hi hx hk
    simp only [layout_Format_b2]
    refine (if_pos (decide_eq_true (by omega))).trans (bindE hx ((chk_true (by simp; omega)).trans ?_))
    rw [hk _ (by simp; omega)]
    simp [pW]
  · intro c q hq
    simp only [layout_Format_b2]
    rw [if_neg (by simp)]
    unfold layout_Format_k2
    rw [fmt3 v q (by omega), List.map_nil, List.append_nil]
theorem fmt1 {l : Layout} (v : ValN l) : iter (layout_Format_b1 l) FUEL ([], 0) = words_Join_m (fmtL l) := by
  have hf := v.full
  have := iter_list (B := layout_Format_b1 l) (fun (q : List (List Str)) i => (q, i)) l.Stations (fun q i => q.length ≤ i) (fun q r => words_Join_m ((((q ++ r.map (fun s => [sW, s])) ++ l.Points.map (fun s => [pW, s])) ++ l.Sections.map (scLine l)) ++ l.Links.map (kLine l))) ?_ ?_ FUEL [] 0 (by simp) (by omega) (fuel_of (by omega))
  · simpa [fmtL] using this
  · intro c q i s r hq hdr hi hx hk
    simp only [layout_Format_b1]
    refine (if_pos (decide_eq_true (by omega))).trans (bindE hx ((chk_true (by simp; omega)).trans ?_))
    rw [hk _ (by simp; omega)]
    simp [sW]
  · intro c q hq
    simp only [layout_Format_b1]
    rw [if_neg (by simp)]
    unfold layout_Format_k1
    rw [fmt2 v q (by omega), List.map_nil, List.append_nil]
theorem joinM_ok (a : List (List Str)) (h : ∀ w ∈ a, lineOk w ∧ (wlF true w).length ≤ 200) (hl : a.length ≤ 100000) : words_Join_m a = some ⟨joinT a⟩ := by
  have h1 := szL_le a (fun w hw => (h w hw).2)
  rw [join_m a (by omega), joinL_ok a [] (fun w hw => (h w hw).1)]
  rfl
def fmtS (l : Layout) : Str := if checkL (layOf l) = 0 then ⟨joinT (fmtL l)⟩ else ⟨[]⟩
theorem format_m (l : Layout) : layout_Format_m l = some (fmtS l) := by
  unfold layout_Format_m layout_Check_m fmtS
  rw [Option.bind_some]
  by_cases h : checkL (layOf l) = 0
  · have v := valN_of h
    rw [if_neg (by simpa using h), if_pos h, fmt1 v, joinM_ok _ (fmt_ok v) (by have := fmt_len v; omega)]
  · rw [if_pos (by simpa using h), if_neg h]

/-! ### The reference's Format -/
theorem cat_s (s t : Str) (h : s.l.length + t.l.length ≤ 100000000000000) : strCat s t = some ⟨s.l ++ t.l⟩ := cat_m s.l t.l h
theorem catx {s t c : Str} (h : s.l.length + t.l.length ≤ 100000000000000) (e : s.l ++ t.l = c.l) : strCat s t = some c := by
  rw [cat_s s t h, e]
theorem rfmt4 {l : Layout} (v : ValN l) (acc : List (List Str)) (ha : acc.length ≤ 168) (hw : ∀ w ∈ acc, (wlF true w).length ≤ 200) :
    iter (ref1_Format_b4 l) FUEL (⟨joinT acc⟩, 0) = some ⟨joinT (acc ++ l.Links.map (kLine l))⟩ := by
  have hf := v.full
  have := iter_list (B := ref1_Format_b4 l) (fun (q : List (List Str)) i => (⟨joinT q⟩, i)) l.Links (fun q i => q.length ≤ 168 + i ∧ ∀ w ∈ q, (wlF true w).length ≤ 200) (fun q r => some ⟨joinT (q ++ r.map (kLine l))⟩) ?_ ?_ FUEL acc 0 ⟨by omega, hw⟩ (by omega) (fuel_of (by omega))
  · simpa using this
  · rintro c q i k r ⟨hq, hqw⟩ hdr hi hx hk
    have hj := joinT_le q hqw
    have hm := List.mem_of_getElem? (idx_get hx)
    obtain ⟨hA, hB, hE, hG, hP, _⟩ := v.links k hm
    have hp := v.pos k hm
    have hlen := (kLine_ok v hm).2
    have m1 := (v.scw _ (getD_mem hA.1 hA.2)).2
    have m2 := (v.scw _ (getD_mem hB.1 hB.2)).2
    have f1 := endW_len k.AEnd; have f2 := endW_len k.BEnd
    generalize hsA : l.Sections.getD k.A.toNat default = sA at m1
    generalize hsB : l.Sections.getD k.B.toNat default = sB at m2
    have scA : scN l k.A = sA.Name := congrArg (·.Name) hsA
    have scB : scN l k.B = sB.Name := congrArg (·.Name) hsB
    simp only [ref1_Format_b4]
    refine (if_pos (decide_eq_true (by omega))).trans (bindE hx (bindE ((getD_idx hA.1 hA.2).trans (congrArg some hsA)) ?_))
    refine bindE (cat_s _ _ (by simp; omega)) (bindE (cat_s _ _ (by simp; omega)) ((chk_true (i64b_of (by omega) (by omega))).trans (bindE (end_sub hE) (bindE (cat_s _ _ (by simp; omega)) (bindE (cat_s _ _ (by simp; omega)) (bindE ((getD_idx hB.1 hB.2).trans (congrArg some hsB)) ?_))))))
    refine bindE (cat_s _ _ (by simp; omega)) (bindE (cat_s _ _ (by simp; omega)) ((chk_true (i64b_of (by omega) (by omega))).trans (bindE (end_sub hG) (bindE (cat_s _ _ (by simp; omega)) (bindE (cat_s _ _ (by simp; omega)) ?_)))))
    have hq' : ∀ w ∈ q ++ [kLine l k], (wlF true w).length ≤ 200 := fun w hw => by
      rcases List.mem_append.1 hw with hw | hw
      · exact hqw w hw
      · rw [List.mem_singleton.1 hw]; exact hlen
    have hcc := hk (q ++ [kLine l k]) ⟨by simp; omega, hq'⟩
    by_cases hpt : k.Point = -1
    · refine (if_neg (by simp; omega)).trans ?_
      unfold ref1_Format_k6
      refine bindE (catx (c := ⟨joinT (q ++ [kLine l k])⟩) (by simp; omega) ?_) ((chk_true (i64b_of (by omega) (by omega))).trans ?_)
      · rw [joinT_snoc]
        simp [kLine, hpt, scA, scB, wlF, kW]
      · rw [hcc]; simp
    · have hm3 := (v.ptw (ptN l k.Point) (getD_mem (by omega) hP.2)).2
      have l3 := itoa_len k.Pos (by omega) (by omega)
      unfold ptN at hm3
      generalize hsP : l.Points.getD k.Point.toNat default = sP at hm3
      have ptP : ptN l k.Point = sP := hsP
      refine (if_pos (by simp; omega)).trans (bindE ((getD_idx (by omega) hP.2).trans (congrArg some hsP)) (bindE (cat_s _ _ (by simp; omega)) (bindE (cat_s _ _ (by simp; omega)) (bindE (dec_m _ (by omega) (by omega)) (bindE (cat_s _ _ (by simp; omega)) (bindE (cat_s _ _ (by simp; omega)) ?_))))))
      unfold ref1_Format_k6
      refine bindE (catx (c := ⟨joinT (q ++ [kLine l k])⟩) (by simp; omega) ?_) ((chk_true (i64b_of (by omega) (by omega))).trans ?_)
      · rw [joinT_snoc]
        simp [kLine, hpt, scA, scB, ptP, wlF, kW, nI]
      · rw [hcc]; simp
  · rintro c q ⟨hq, hqw⟩
    simp only [ref1_Format_b4]
    rw [if_neg (by simp)]
    unfold ref1_Format_k5
    simp
theorem rfmt3 {l : Layout} (v : ValN l) (acc : List (List Str)) (ha : acc.length ≤ 72) (hw : ∀ w ∈ acc, (wlF true w).length ≤ 200) :
    iter (ref1_Format_b3 l) FUEL (⟨joinT acc⟩, 0) = some ⟨joinT ((acc ++ l.Sections.map (scLine l)) ++ l.Links.map (kLine l))⟩ := by
  have hf := v.full
  have := iter_list (B := ref1_Format_b3 l) (fun (q : List (List Str)) i => (⟨joinT q⟩, i)) l.Sections (fun q i => q.length ≤ 72 + i ∧ ∀ w ∈ q, (wlF true w).length ≤ 200) (fun q r => some ⟨joinT ((q ++ r.map (scLine l)) ++ l.Links.map (kLine l))⟩) ?_ ?_ FUEL acc 0 ⟨by omega, hw⟩ (by omega) (fuel_of (by omega))
  · simpa using this
  · rintro c q i s r ⟨hq, hqw⟩ hdr hi hx hk
    have hj := joinT_le q hqw
    have hm := List.mem_of_getElem? (idx_get hx)
    have h2 := v.secs s hm
    have h3 := v.scs s hm
    have h4 := (v.scw s hm).2
    have hlen := (scLine_ok v hm).2
    have l1 := itoa_len s.Length (by omega) (by omega)
    have l2 := itoa_len s.Limit (by omega) (by omega)
    have l3 := itoa_len s.Grade (by omega) (by omega)
    simp only [ref1_Format_b3]
    refine (if_pos (decide_eq_true (by omega))).trans (bindE hx ?_)
    refine bindE (cat_s _ _ (by simp; omega)) (bindE (cat_s _ _ (by simp; omega)) (bindE (dec_m _ (by omega) (by omega)) (bindE (cat_s _ _ (by simp; omega)) (bindE (cat_s _ _ (by simp; omega)) ?_))))
    refine bindE (dec_m _ (by omega) (by omega)) (bindE (cat_s _ _ (by simp; omega)) (bindE (cat_s _ _ (by simp; omega)) (bindE (dec_m _ (by omega) (by omega)) (bindE (cat_s _ _ (by simp; omega)) (bindE (cat_s _ _ (by simp; omega)) ?_)))))
    have hq' : ∀ w ∈ q ++ [scLine l s], (wlF true w).length ≤ 200 := fun w hw => by
      rcases List.mem_append.1 hw with hw | hw
      · exact hqw w hw
      · rw [List.mem_singleton.1 hw]; exact hlen
    have hcc := hk (q ++ [scLine l s]) ⟨by simp; omega, hq'⟩
    by_cases hst : s.Station = -1
    · refine (if_neg (by simp; omega)).trans ?_
      unfold ref1_Format_k4
      refine bindE (catx (c := ⟨joinT (q ++ [scLine l s])⟩) (by simp; omega) ?_) ((chk_true (i64b_of (by omega) (by omega))).trans ?_)
      · rw [joinT_snoc]
        simp [scLine, hst, wlF, cW, nI]
      · rw [hcc]; simp
    · have hm3 := (v.stw (stN l s.Station) (getD_mem (by omega) h3.2)).2
      unfold stN at hm3
      generalize hsP : l.Stations.getD s.Station.toNat default = sP at hm3
      have stP : stN l s.Station = sP := hsP
      refine (if_pos (by simp; omega)).trans (bindE ((getD_idx (by omega) h3.2).trans (congrArg some hsP)) (bindE (cat_s _ _ (by simp; omega)) (bindE (cat_s _ _ (by simp; omega)) ?_)))
      unfold ref1_Format_k4
      refine bindE (catx (c := ⟨joinT (q ++ [scLine l s])⟩) (by simp; omega) ?_) ((chk_true (i64b_of (by omega) (by omega))).trans ?_)
      · rw [joinT_snoc]
        simp [scLine, hst, stP, wlF, cW, aW, nI]
      · rw [hcc]; simp
  · rintro c q ⟨hq, hqw⟩
    simp only [ref1_Format_b3]
    rw [if_neg (by simp)]
    unfold ref1_Format_k3
    rw [rfmt4 v q (by omega) hqw, List.map_nil, List.append_nil]
theorem rfmt2 {l : Layout} (v : ValN l) (acc : List (List Str)) (ha : acc.length ≤ 24) (hw : ∀ w ∈ acc, (wlF true w).length ≤ 200) :
    iter (ref1_Format_b2 l) FUEL (⟨joinT acc⟩, 0) = some ⟨joinT (((acc ++ l.Points.map (fun s => [pW, s])) ++ l.Sections.map (scLine l)) ++ l.Links.map (kLine l))⟩ := by
  have hf := v.full
  have := iter_list (B := ref1_Format_b2 l) (fun (q : List (List Str)) i => (⟨joinT q⟩, i)) l.Points (fun q i => q.length ≤ 24 + i ∧ ∀ w ∈ q, (wlF true w).length ≤ 200) (fun q r => some ⟨joinT (((q ++ r.map (fun s => [pW, s])) ++ l.Sections.map (scLine l)) ++ l.Links.map (kLine l))⟩) ?_ ?_ FUEL acc 0 ⟨by omega, hw⟩ (by omega) (fuel_of (by omega))
  · simpa using this
  · rintro c q i s r ⟨hq, hqw⟩ hdr hi hx hk
    have hj := joinT_le q hqw
    have hm := List.mem_of_getElem? (idx_get hx)
    have h4 := (v.ptw s hm).2
    have hlen := (ptLine_ok v hm).2
    have hq' : ∀ w ∈ q ++ [[pW, s]], (wlF true w).length ≤ 200 := fun w hw => by
      rcases List.mem_append.1 hw with hw | hw
      · exact hqw w hw
      · rw [List.mem_singleton.1 hw]; exact hlen
    have hcc := hk (q ++ [[pW, s]]) ⟨by simp; omega, hq'⟩
    simp only [ref1_Format_b2]
    refine (if_pos (decide_eq_true (by omega))).trans (bindE hx (bindE (cat_s _ _ (by simp; omega)) (bindE (cat_s _ _ (by simp; omega)) (bindE (catx (c := ⟨joinT (q ++ [[pW, s]])⟩) (by simp; omega) ?_) ((chk_true (i64b_of (by omega) (by omega))).trans ?_)))))
    · rw [joinT_snoc]; simp [wlF, pW]
    · rw [hcc]; simp
  · rintro c q ⟨hq, hqw⟩
    simp only [ref1_Format_b2]
    rw [if_neg (by simp)]
    unfold ref1_Format_k2
    rw [rfmt3 v q (by omega) hqw, List.map_nil, List.append_nil]
theorem rfmt1 {l : Layout} (v : ValN l) : iter (ref1_Format_b1 l) FUEL (⟨[]⟩, 0) = some ⟨joinT (fmtL l)⟩ := by
  have hf := v.full
  have := iter_list (B := ref1_Format_b1 l) (fun (q : List (List Str)) i => (⟨joinT q⟩, i)) l.Stations (fun q i => q.length ≤ i ∧ ∀ w ∈ q, (wlF true w).length ≤ 200) (fun q r => some ⟨joinT ((((q ++ r.map (fun s => [sW, s])) ++ l.Points.map (fun s => [pW, s])) ++ l.Sections.map (scLine l)) ++ l.Links.map (kLine l))⟩) ?_ ?_ FUEL [] 0 ⟨by simp, by simp⟩ (by omega) (fuel_of (by omega))
  · simpa [fmtL, joinT] using this
  · rintro c q i s r ⟨hq, hqw⟩ hdr hi hx hk
    have hj := joinT_le q hqw
    have hm := List.mem_of_getElem? (idx_get hx)
    have h4 := (v.stw s hm).2
    have hlen := (stLine_ok v hm).2
    have hq' : ∀ w ∈ q ++ [[sW, s]], (wlF true w).length ≤ 200 := fun w hw => by
      rcases List.mem_append.1 hw with hw | hw
      · exact hqw w hw
      · rw [List.mem_singleton.1 hw]; exact hlen
    have hcc := hk (q ++ [[sW, s]]) ⟨by simp; omega, hq'⟩
    simp only [ref1_Format_b1]
    refine (if_pos (decide_eq_true (by omega))).trans (bindE hx (bindE (cat_s _ _ (by simp; omega)) (bindE (cat_s _ _ (by simp; omega)) (bindE (catx (c := ⟨joinT (q ++ [[sW, s]])⟩) (by simp; omega) ?_) ((chk_true (i64b_of (by omega) (by omega))).trans ?_)))))
    · rw [joinT_snoc]; simp [wlF, sW]
    · rw [hcc]; simp
  · rintro c q ⟨hq, hqw⟩
    simp only [ref1_Format_b1]
    rw [if_neg (by simp)]
    unfold ref1_Format_k1
    rw [rfmt2 v q (by omega) hqw, List.map_nil, List.append_nil]
theorem rformat_m (l : Layout) : ref1_Format_m l = some (fmtS l) := by
  unfold ref1_Format_m fmtS
  rw [check_r, Option.bind_some]
  by_cases h : checkL (layOf l) = 0
  · have v := valN_of h
    rw [if_neg (by simpa using h), if_pos h, rfmt1 v]
  · rw [if_pos (by simpa using h), if_neg h]
end Go.Proofs.YtohhihdjdelckaaDoor

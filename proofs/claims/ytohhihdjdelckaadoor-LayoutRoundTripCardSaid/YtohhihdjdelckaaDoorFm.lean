/- The text of a valid layout: the program's Format and the reference's one write the same lines. Queries of a layout: the program's answers and the reference's ones are the same. The parsers: the program's Parse and the reference's one answer the same for every text. The parsers: the whole text. The text of a valid layout is read back as that layout. -/
import Derived.Test.YtohhihdjdelckaaDoorFn
import Derived.Test.YtohhihdjdelckaaDoorFa
import Derived.Test.YtohhihdjdelckaaDoorLd
import Derived.Test.YtohhihdjdelckaaDoorRd
import Derived.Test.YtohhihdjdelckaaDoorTh
import Derived.Test.YtohhihdjdelckaaDoorLe
import Derived.Test.YtohhihdjdelckaaDoorLf
import Derived.Test.YtohhihdjdelckaaDoorLg
import Derived.Test.YtohhihdjdelckaaDoorVw
import Derived.Test.YtohhihdjdelckaaDoorVm
set_option linter.all false
namespace Go.Proofs.YtohhihdjdelckaaDoor
open Go.Dc
set_option maxRecDepth 10000
theorem bindE {α β : Type} {o : Option α} {x : α} {K : α → Option β} {r : Option β} (h : o = some x) (h2 : K x = r) : o.bind K = r := by rw [h]; exact h2

def sW : Str := ⟨[115, 116, 97, 116, 105, 111, 110]⟩
def pW : Str := ⟨[112, 111, 105, 110, 116]⟩
def cW : Str := ⟨[115, 101, 99, 116, 105, 111, 110]⟩
def kW : Str := ⟨[108, 105, 110, 107]⟩
def aW : Str := ⟨[97, 116]⟩
def nI (v : Int) : Str := ⟨Lib.itoa v⟩
def endW (e : Int) : Str := if e = 0 then ⟨[65]⟩ else ⟨[66]⟩
def stN (l : Layout) (i : Int) : Str := l.Stations.getD i.toNat default
def ptN (l : Layout) (i : Int) : Str := l.Points.getD i.toNat default
def scN (l : Layout) (i : Int) : Str := (l.Sections.getD i.toNat default).Name
def scLine (l : Layout) (s : Section) : List Str := [cW, s.Name, nI s.Length, nI s.Limit, nI s.Grade] ++ if s.Station = -1 then [] else [aW, stN l s.Station]
def kLine (l : Layout) (k : Link) : List Str := [kW, scN l k.A, endW k.AEnd, scN l k.B, endW k.BEnd] ++ if k.Point = -1 then [] else [ptN l k.Point, nI k.Pos]
def fmtL (l : Layout) : List (List Str) := ((l.Stations.map (fun s => [sW, s]) ++ l.Points.map (fun s => [pW, s])) ++ l.Sections.map (scLine l)) ++ l.Links.map (kLine l)

theorem getD_idx {α : Type} [Inhabited α] {xs : List α} {i : Int} (h0 : 0 ≤ i) (h : i < xs.length) : idx xs i = some (xs.getD i.toNat default) := idx_of_lt h0 h
theorem getD_mem {α : Type} [Inhabited α] {xs : List α} {i : Int} (h0 : 0 ≤ i) (h : i < xs.length) : xs.getD i.toNat default ∈ xs := by
  have : i.toNat < xs.length := by omega
  rw [List.getD_eq_getElem?_getD, List.getElem?_eq_getElem this]
  exact List.getElem_mem this
theorem itoa_m (v : Int) (h1 : -9223372036854775808 ≤ v) (h2 : v ≤ 9223372036854775807) : strconv_Itoa_m v = some (nI v) := by
  unfold strconv_Itoa_m
  rw [if_pos ⟨h1, h2⟩]; rfl
theorem end_idx {e : Int} (h : e = 0 ∨ e = 1) : idx ([(⟨[65]⟩ : Str), (⟨[66]⟩ : Str)] : List Str) e = some (endW e) := by
  rcases h with h | h <;> (subst h; rfl)
theorem endW_len (e : Int) : (endW e).l.length = 1 := by unfold endW; split <;> rfl
theorem endW_word (e : Int) : wordB (endW e) = true := by unfold endW; split <;> decide

/-! ### Every line can be joined -/
theorem scLine_ok {l : Layout} (v : ValN l) {s : Section} (hs : s ∈ l.Sections) : lineOk (scLine l s) ∧ (wlF true (scLine l s)).length ≤ 200 := by
  have h1 := v.scw s hs
  have h2 := v.secs s hs
  have h3 := v.scs s hs
  have l1 := itoa_len s.Length (by omega) (by omega)
  have l2 := itoa_len s.Limit (by omega) (by omega)
  have l3 := itoa_len s.Grade (by omega) (by omega)
  have w1 := itoa_word s.Length; have w2 := itoa_word s.Limit; have w3 := itoa_word s.Grade
  have c : wordB cW = true := by decide
  have a : wordB aW = true := by decide
  unfold scLine
  by_cases hst : s.Station = -1
  · rw [if_pos hst]
    refine ⟨⟨by simp, by simp, by simp [c, h1.1, nI, w1, w2, w3]⟩, ?_⟩
    simp [wlF, cW, nI]; omega
  · rw [if_neg hst]
    have hm := v.stw (stN l s.Station) (getD_mem (by omega) (by omega))
    refine ⟨⟨by simp, by simp, by simp [c, a, h1.1, nI, w1, w2, w3, hm.1]⟩, ?_⟩
    have := hm.2
    simp [wlF, cW, aW, nI]; omega
theorem kLine_ok {l : Layout} (v : ValN l) {k : Link} (hk : k ∈ l.Links) : lineOk (kLine l k) ∧ (wlF true (kLine l k)).length ≤ 200 := by
  obtain ⟨hA, hB, _, _, hP, _⟩ := v.links k hk
  have hp := v.pos k hk
  have m1 := v.scw _ (getD_mem hA.1 hA.2)
  have m2 := v.scw _ (getD_mem hB.1 hB.2)
  have l3 := itoa_len k.Pos (by omega) (by omega)
  have w3 := itoa_word k.Pos
  have c : wordB kW = true := by decide
  have e1 := endW_word k.AEnd; have e2 := endW_word k.BEnd
  have f1 := endW_len k.AEnd; have f2 := endW_len k.BEnd
  have n1 : (scN l k.A).l.length ≤ 12 := m1.2
  have n2 : (scN l k.B).l.length ≤ 12 := m2.2
  have q1 : wordB (scN l k.A) = true := m1.1
  have q2 : wordB (scN l k.B) = true := m2.1
  unfold kLine
  by_cases hst : k.Point = -1
  · rw [if_pos hst]
    refine ⟨⟨by simp, by simp, by simp [c, q1, q2, e1, e2]⟩, ?_⟩
    simp [wlF, kW, f1, f2]; omega
  · rw [if_neg hst]
    have hm := v.ptw (ptN l k.Point) (getD_mem (by omega) (by omega))
    have := hm.2
    refine ⟨⟨by simp, by simp, by simp [c, q1, q2, e1, e2, hm.1, nI, w3]⟩, ?_⟩
    simp [wlF, kW, f1, f2, nI]; omega
theorem stLine_ok {l : Layout} (v : ValN l) {s : Str} (hs : s ∈ l.Stations) : lineOk [sW, s] ∧ (wlF true [sW, s]).length ≤ 200 := by
  have h := v.stw s hs
  have c : wordB sW = true := by decide
  refine ⟨⟨by simp, by simp, by simp [c, h.1]⟩, ?_⟩
  have := h.2
  simp [wlF, sW]; omega
theorem ptLine_ok {l : Layout} (v : ValN l) {s : Str} (hs : s ∈ l.Points) : lineOk [pW, s] ∧ (wlF true [pW, s]).length ≤ 200 := by
  have h := v.ptw s hs
  have c : wordB pW = true := by decide
  refine ⟨⟨by simp, by simp, by simp [c, h.1]⟩, ?_⟩
  have := h.2
  simp [wlF, pW]; omega
theorem fmt_ok {l : Layout} (v : ValN l) : ∀ w ∈ fmtL l, lineOk w ∧ (wlF true w).length ≤ 200 := by
  intro w hw
  unfold fmtL at hw
  rcases List.mem_append.1 hw with hw | hw
  · rcases List.mem_append.1 hw with hw | hw
    · rcases List.mem_append.1 hw with hw | hw
      · obtain ⟨s, hs, rfl⟩ := List.mem_map.1 hw; exact stLine_ok v hs
      · obtain ⟨s, hs, rfl⟩ := List.mem_map.1 hw; exact ptLine_ok v hs
    · obtain ⟨s, hs, rfl⟩ := List.mem_map.1 hw; exact scLine_ok v hs
  · obtain ⟨s, hs, rfl⟩ := List.mem_map.1 hw; exact kLine_ok v hs
theorem joinT_le : ∀ (a : List (List Str)), (∀ w ∈ a, (wlF true w).length ≤ 200) → (joinT a).length ≤ a.length * 201
  | [], _ => by simp [joinT]
  | v :: r, h => by
    have h1 := h v List.mem_cons_self
    have h2 := joinT_le r (fun w hw => h w (List.mem_cons_of_mem _ hw))
    simp only [joinT, List.length_append, List.length_cons]
    omega
theorem fmt_len {l : Layout} (v : ValN l) : (fmtL l).length ≤ 360 := by
  have := v.full
  simp [fmtL]; omega
theorem szW_wl (w : List Str) : szW w ≤ (wlF true w).length + 1 := by
  have key : ∀ r : List Str, szW r = (wlF false r).length := by
    intro r
    induction r with
    | nil => simp [szW, wlF]
    | cons s r ih => rw [szW_cons, ih]; simp [wlF]; omega
  cases w with
  | nil => simp [szW]
  | cons s r => rw [szW_cons, key]; simp [wlF]; omega
theorem szL_le : ∀ (a : List (List Str)), (∀ w ∈ a, (wlF true w).length ≤ 200) → szL a ≤ a.length * 202
  | [], _ => by simp [szL]
  | v :: r, h => by
    have h1 := h v List.mem_cons_self
    have h2 := szL_le r (fun w hw => h w (List.mem_cons_of_mem _ hw))
    have h3 := szW_wl v
    rw [szL_cons]
    simp only [List.length_cons]
    omega

/-! ### The program's Format -/
theorem fmt4 {l : Layout} (v : ValN l) (acc : List (List Str)) (hacc : acc.length ≤ 168) :
    iter (layout_Format_b4 l) FUEL (acc, 0) = words_Join_m (acc ++ l.Links.map (kLine l)) := by
  have hf := v.full
  have := iter_list (B := layout_Format_b4 l) (fun (q : List (List Str)) i => (q, i)) l.Links (fun q i => q.length ≤ 168 + i) (fun q r => words_Join_m (q ++ r.map (kLine l))) ?_ ?_ FUEL acc 0 (by omega) (by omega) (fuel_of (by omega))
  · simpa using this
  · intro c q i k r hq hdr hi hx hk
    have hm := List.mem_of_getElem? (idx_get hx)
    obtain ⟨hA, hB, hE, hG, hP, _⟩ := v.links k hm
    have hp := v.pos k hm
    simp only [layout_Format_b4]
    refine (if_pos (decide_eq_true (by omega))).trans (bindE hx (bindE (getD_idx hA.1 hA.2) (bindE (end_idx hE) (bindE (getD_idx hB.1 hB.2) (bindE (end_idx hG) ?_)))))
    by_cases hpt : k.Point = -1
    · refine (if_neg (by simpa using hpt)).trans ?_
      unfold layout_Format_k6
      refine (chk_true (by simp; omega)).trans ?_
      rw [hk _ (by simp; omega)]
      simp [kLine, hpt, scN, kW]
    · refine (if_pos (by simpa using hpt)).trans (bindE (getD_idx (by omega) hP.2) (bindE (itoa_m _ (by omega) (by omega)) ((chk_true (by simp)).trans ?_)))
      unfold layout_Format_k6
      refine (chk_true (by simp; omega)).trans ?_
      rw [hk _ (by simp; omega)]
      simp [kLine, hpt, scN, kW, ptN]
  · intro c q hq
    simp only [layout_Format_b4]
    rw [if_neg (by simp)]
    unfold layout_Format_k5
    rw [List.map_nil, List.append_nil]
    cases words_Join_m q <;> rfl
theorem fmt3 {l : Layout} (v : ValN l) (acc : List (List Str)) (hacc : acc.length ≤ 72) :
    iter (layout_Format_b3 l) FUEL (acc, 0) = words_Join_m ((acc ++ l.Sections.map (scLine l)) ++ l.Links.map (kLine l)) := by
  have hf := v.full
  have := iter_list (B := layout_Format_b3 l) (fun (q : List (List Str)) i => (q, i)) l.Sections (fun q i => q.length ≤ 72 + i) (fun q r => words_Join_m ((q ++ r.map (scLine l)) ++ l.Links.map (kLine l))) ?_ ?_ FUEL acc 0 (by omega) (by omega) (fuel_of (by omega))
  · simpa using this
  · intro c q i s r hq hdr hi hx hk
    have hm := List.mem_of_getElem? (idx_get hx)
    have h2 := v.secs s hm
    have h3 := v.scs s hm
    simp only [layout_Format_b3]
    refine (if_pos (decide_eq_true (by omega))).trans (bindE hx (bindE (itoa_m _ (by omega) (by omega)) (bindE (itoa_m _ (by omega) (by omega)) (bindE (itoa_m _ (by omega) (by omega)) ?_))))
    by_cases hst : s.Station = -1
    · refine (if_neg (by simpa using hst)).trans ?_
      unfold layout_Format_k4
      refine (chk_true (by simp; omega)).trans ?_
      rw [hk _ (by simp; omega)]
      simp [scLine, hst, cW]
    · refine (if_pos (by simpa using hst)).trans (bindE (getD_idx (by omega) h3.2) ((chk_true (by simp)).trans ?_))
      unfold layout_Format_k4
      refine (chk_true (by simp; omega)).trans ?_
      rw [hk _ (by simp; omega)]
      simp [scLine, hst, cW, aW, stN]
  · intro c q hq
    simp only [layout_Format_b3]
    rw [if_neg (by simp)]
    unfold layout_Format_k3
    rw [fmt4 v q (by omega), List.map_nil, List.append_nil]
theorem fmt2 {l : Layout} (v : ValN l) (acc : List (List Str)) (hacc : acc.length ≤ 24) :
    iter (layout_Format_b2 l) FUEL (acc, 0) = words_Join_m (((acc ++ l.Points.map (fun s => [pW, s])) ++ l.Sections.map (scLine l)) ++ l.Links.map (kLine l)) := by
  have hf := v.full
  have := iter_list (B := layout_Format_b2 l) (fun (q : List (List Str)) i => (q, i)) l.Points (fun q i => q.length ≤ 24 + i) (fun q r => words_Join_m (((q ++ r.map (fun s => [pW, s])) ++ l.Sections.map (scLine l)) ++ l.Links.map (kLine l))) ?_ ?_ FUEL acc 0 (by omega) (by omega) (fuel_of (by omega))
  · simpa using this
  · intro c q i s r hq hdr hi hx hk
    simp only [layout_Format_b2]
    refine (if_pos (decide_eq_true (by omega))).trans (bindE hx ((chk_true (by simp; omega)).trans ?_))
    rw [hk _ (by simp; omega)]
    simp [pW]
  · intro c q hq
    simp only [layout_Format_b2]
    rw [if_neg (by simp)]
    unfold layout_Format_k2
    rw [fmt3 v q (by omega), List.map_nil, List.append_nil]
theorem fmt1 {l : Layout} (v : ValN l) : iter (layout_Format_b1 l) FUEL ([], 0) = words_Join_m (fmtL l) := by
  have hf := v.full
  have := iter_list (B := layout_Format_b1 l) (fun (q : List (List Str)) i => (q, i)) l.Stations (fun q i => q.length ≤ i) (fun q r => words_Join_m ((((q ++ r.map (fun s => [sW, s])) ++ l.Points.map (fun s => [pW, s])) ++ l.Sections.map (scLine l)) ++ l.Links.map (kLine l))) ?_ ?_ FUEL [] 0 (by simp) (by omega) (fuel_of (by omega))
  · simpa [fmtL] using this
  · intro c q i s r hq hdr hi hx hk
    simp only [layout_Format_b1]
    refine (if_pos (decide_eq_true (by omega))).trans (bindE hx ((chk_true (by simp; omega)).trans ?_))
    rw [hk _ (by simp; omega)]
    simp [sW]
  · intro c q hq
    simp only [layout_Format_b1]
    rw [if_neg (by simp)]
    unfold layout_Format_k1
    rw [fmt2 v q (by omega), List.map_nil, List.append_nil]
theorem joinM_ok (a : List (List Str)) (h : ∀ w ∈ a, lineOk w ∧ (wlF true w).length ≤ 200) (hl : a.length ≤ 100000) : words_Join_m a = some ⟨joinT a⟩ := by
  have h1 := szL_le a (fun w hw => (h w hw).2)
  rw [join_m a (by omega), joinL_ok a [] (fun w hw => (h w hw).1)]
  rfl
def fmtS (l : Layout) : Str := if checkL (layOf l) = 0 then ⟨joinT (fmtL l)⟩ else ⟨[]⟩
theorem format_m (l : Layout) : layout_Format_m l = some (fmtS l) := by
  unfold layout_Format_m layout_Check_m fmtS
  rw [Option.bind_some]
  by_cases h : checkL (layOf l) = 0
  · have v := valN_of h
    rw [if_neg (by simpa using h), if_pos h, fmt1 v, joinM_ok _ (fmt_ok v) (by have := fmt_len v; omega)]
  · rw [if_pos (by simpa using h), if_neg h]

/-! ### The reference's Format -/
end Go.Proofs.YtohhihdjdelckaaDoor

namespace Go.Proofs.YtohhihdjdelckaaDoor
open Go.Dc
set_option maxRecDepth 10000

/-- What is kept of hops is right. -/
theorem awake4 : law4_awake_m = some true := by decide +kernel

end Go.Proofs.YtohhihdjdelckaaDoor

namespace Go.Proofs.YtohhihdjdelckaaDoor
open Go.Dc
set_option maxRecDepth 10000

/-! ### Searching -/
def posP {α : Type} (p : α → Bool) : Nat → List α → Int
  | _, [] => -1
  | i, x :: r => if p x then (i : Int) else posP p (i + 1) r
theorem posP_map {α β : Type} (p : β → Bool) (f : α → β) : ∀ (l : List α) (i : Nat), posP p i (l.map f) = posP (fun x => p (f x)) i l
  | [], _ => rfl
  | x :: r, i => by
    simp only [List.map_cons, posP]
    rw [posP_map p f r]
theorem search_m {α : Type} {B : (Nat → Option Int) → Nat → Option Int} (p : α → Bool) (xs : List α) (hl : xs.length ≤ 140737488355328)
    (h1 : ∀ c i x, i < xs.length → idx xs (i : Int) = some x → B c i = if p x then some (i : Int) else c (i + 1)) (h2 : ∀ c, B c xs.length = some (-1)) : iter B FUEL 0 = some (posP p 0 xs) := by
  have := iter_list (B := B) (fun (_ : Nat) i => i) xs (fun q i => q = i) (fun q r => some (posP p q r)) ?_ ?_ FUEL 0 0 rfl (by omega) (fuel_of (by omega))
  · exact this
  · intro c q i x r hq hdr hi hx hk
    subst hq
    rw [h1 c q x hi hx]
    simp only [posP]
    by_cases hp : p x = true
    · rw [if_pos hp, if_pos hp]
    · rw [if_neg hp, if_neg hp]; exact hk (q + 1) rfl
  · intro c q hq
    subst hq
    exact h2 c

def posF (xs : List Str) (s : Str) : Int := posP (fun x => decide (x = s)) 0 xs
theorem index_m (xs : List Str) (s : Str) (hl : xs.length ≤ 140737488355328) : slices_Index_string_string_m xs s = some (posF xs s) := by
  unfold slices_Index_string_string_m posF
  refine search_m _ xs hl (fun c i x hi hx => ?_) (fun c => ?_)
  · simp only [slices_Index_string_string_b1]
    rw [if_pos (by simp; omega), hx, Option.bind_some]
    by_cases h : x = s
    · rw [if_pos (by simp [h]), if_pos (by simp [h])]
    · rw [if_neg (by simp only [decide_eq_true_eq]; exact fun e => h e.symm), if_neg (by simp [h])]
  · simp only [slices_Index_string_string_b1]
    rw [if_neg (by simp)]
    rfl
def secF (l : Layout) (s : Str) : Int := posF (l.Sections.map (·.Name)) s
theorem sname_m (l : Layout) (s : Str) (hl : l.Sections.length ≤ 140737488355328) : layout_sectionNamed_m l s = some (secF l s) := by
  unfold layout_sectionNamed_m secF posF
  rw [posP_map]
  refine bindE ?_ rfl
  unfold slices_IndexFunc_api_Section_api_Section_m
  refine search_m _ l.Sections hl (fun c i x hi hx => ?_) (fun c => ?_)
  · simp only [slices_IndexFunc_api_Section_api_Section_b1, layout_sectionNamed_c1_m]
    rw [if_pos (by simp; omega), hx, Option.bind_some, Option.bind_some]
  · simp only [slices_IndexFunc_api_Section_api_Section_b1]
    rw [if_neg (by simp)]
    rfl
def endF (s : Str) : Int := if s = ⟨[65]⟩ then 0 else if s = ⟨[66]⟩ then 1 else -1
theorem side_m (s : Str) : layout_side_m s = some (endF s) := by
  unfold layout_side_m
  refine (search_m (fun x => decide (x = s)) [(⟨[65]⟩ : Str), (⟨[66]⟩ : Str)] (by simp) (fun c i x hi hx => ?_) (fun c => ?_)).trans ?_
  · simp only [layout_side_b1]
    rw [if_pos (by simp only [List.length_cons, List.length_nil] at hi; simp only [decide_eq_true_eq]; omega), hx, Option.bind_some]
  · simp only [layout_side_b1]
    rw [if_neg (by simp)]
    rfl
  · unfold endF
    simp only [posP, decide_eq_true_eq]
    by_cases h1 : s = ⟨[65]⟩
    · rw [if_pos h1.symm, if_pos h1]; rfl
    · rw [if_neg (fun e => h1 e.symm), if_neg h1]
      by_cases h2 : s = ⟨[66]⟩
      · rw [if_pos h2.symm, if_pos h2]; rfl
      · rw [if_neg (fun e => h2 e.symm), if_neg h2]
/-! ### One line -/
def gW (w : List Str) (k : Nat) : Str := w.getD k default
theorem gW_idx {w : List Str} {k : Nat} (h : k < w.length) : idx w (k : Int) = some (gW w k) := getD_idx (by omega) (by omega)
theorem gW_mem {w : List Str} {k : Nat} (h : k < w.length) : gW w k ∈ w := getD_mem (i := (k : Int)) (by omega) (by omega)
theorem whnE {α : Type} {g : Bool} {d v : α} {o : Option α} (h : g = true → o = some v) : ∃ x, whn g d o = some x ∧ (g = true → x = v) := by
  cases g with
  | false => exact ⟨d, rfl, fun h => by cases h⟩
  | true => exact ⟨v, h rfl, fun _ => rfl⟩
def badN (w : List Str) : Bool := ((!(numS (gW w 2).l).2) || (!(numS (gW w 3).l).2)) || (!(numS (gW w 4).l).2)
def declS (l : Layout) (w : List Str) : Int × List Section :=
  if badN w = true then (2, l.Sections)
  else if w.length = 7 then
    if posF l.Stations (gW w 6) < 0 then (3, l.Sections)
    else (0, l.Sections ++ [⟨gW w 1, (numS (gW w 2).l).1, (numS (gW w 3).l).1, (numS (gW w 4).l).1, posF l.Stations (gW w 6)⟩])
  else (0, l.Sections ++ [⟨gW w 1, (numS (gW w 2).l).1, (numS (gW w 3).l).1, (numS (gW w 4).l).1, -1⟩])
def badK (w : List Str) : Bool := (decide (endF (gW w 2) < 0) || decide (endF (gW w 4) < 0)) || ((decide (w.length = 7) && (!decide (gW w 6 = ⟨[48]⟩))) && (!decide (gW w 6 = ⟨[49]⟩)))
def declK (l : Layout) (w : List Str) : Int × List Link :=
  if badK w = true then (2, l.Links)
  else if secF l (gW w 1) < 0 ∨ secF l (gW w 3) < 0 then (3, l.Links)
  else if w.length = 7 then
    if posF l.Points (gW w 5) < 0 then (3, l.Links)
    else (0, l.Links ++ [⟨secF l (gW w 1), endF (gW w 2), secF l (gW w 3), endF (gW w 4), posF l.Points (gW w 5), if gW w 6 = ⟨[49]⟩ then 1 else 0⟩])
  else (0, l.Links ++ [⟨secF l (gW w 1), endF (gW w 2), secF l (gW w 3), endF (gW w 4), -1, 0⟩])
def declF (l : Layout) (w : List Str) : Int × List Str × List Str × List Section × List Link :=
  if gW w 0 = sW ∧ w.length = 2 then (0, l.Stations ++ [gW w 1], l.Points, l.Sections, l.Links)
  else if gW w 0 = pW ∧ w.length = 2 then (0, l.Stations, l.Points ++ [gW w 1], l.Sections, l.Links)
  else if gW w 0 = cW ∧ (w.length = 5 ∨ w.length = 7 ∧ gW w 5 = aW) then ((declS l w).1, l.Stations, l.Points, (declS l w).2, l.Links)
  else if gW w 0 = kW ∧ (w.length = 5 ∨ w.length = 7) then ((declK l w).1, l.Stations, l.Points, l.Sections, (declK l w).2)
  else (2, l.Stations, l.Points, l.Sections, l.Links)

/-- The bounds that a line's walk asks for. -/
structure Bd (l : Layout) : Prop where
  st : l.Stations.length ≤ 1000000
  pt : l.Points.length ≤ 1000000
  sc : l.Sections.length ≤ 1000000
  lk : l.Links.length ≤ 1000000

theorem idx1 {w : List Str} (k : Nat) {i : Int} (hi : i = k) (h : k < w.length) : idx w i = some (gW w k) := by subst hi; exact gW_idx h

theorem declS_k1 (l : Layout) (b : Bd l) (x : Str) (a c d : Int × Bool) (s : Int) : layout_declareSection_k1 l x a c d s = some (0, l.Sections ++ [⟨x, a.1, c.1, d.1, s⟩]) := by
  unfold layout_declareSection_k1
  have := b.sc
  exact chk_true (by simp; omega)
theorem declS_m (l : Layout) (b : Bd l) (w : List Str) (hw : ∀ x ∈ w, x.l.length ≤ 1000000) (hn : w.length = 5 ∨ w.length = 7) : layout_declareSection_m l w = some (declS l w) := by
  have q : ∀ k, k < 5 → (gW w k).l.length ≤ 1000000000000 := fun k hk => by have := hw _ (gW_mem (w := w) (k := k) (by omega)); omega
  unfold layout_declareSection_m declS
  refine bindE (idx1 1 rfl (by omega)) (bindE (idx1 2 rfl (by omega)) (bindE (num_m _ (q 2 (by omega))) (bindE (idx1 3 rfl (by omega)) (bindE (num_m _ (q 3 (by omega))) (bindE (idx1 4 rfl (by omega)) (bindE (num_m _ (q 4 (by omega))) ?_))))))
  by_cases hb : badN w = true
  · rw [if_pos hb]; exact if_pos hb
  · rw [if_neg hb]
    refine (if_neg hb).trans ?_
    by_cases h7 : w.length = 7
    · rw [if_pos h7]
      refine (if_pos (by simp only [decide_eq_true_eq]; omega)).trans (bindE (idx1 6 rfl (by omega)) (bindE (index_m _ _ (by have := b.st; omega)) ?_))
      by_cases hp : posF l.Stations (gW w 6) < 0
      · rw [if_pos hp]; exact if_pos (by simpa using hp)
      · rw [if_neg hp]; exact (if_neg (by simpa using hp)).trans (declS_k1 l b _ _ _ _ _)
    · rw [if_neg h7]
      exact (if_neg (by simp only [decide_eq_true_eq]; omega)).trans (declS_k1 l b _ _ _ _ _)

theorem declK_k2 (l : Layout) (b : Bd l) (x y z u v t : Int) : layout_declareLink_k2 l x y z u (v, t) = some (0, l.Links ++ [⟨x, y, z, u, v, t⟩]) := by
  have := b.lk
  exact chk_true (by simp; omega)
theorem declK_m (l : Layout) (b : Bd l) (w : List Str) (hn : w.length = 5 ∨ w.length = 7) : layout_declareLink_m l w = some (declK l w) := by
  unfold layout_declareLink_m declK
  refine bindE (idx1 2 rfl (by omega)) (bindE (idx1 4 rfl (by omega)) (bindE (side_m _) (bindE (side_m _) ?_)))
  unfold layout_declareLink_k1
  obtain ⟨x1, e1, p1⟩ := whnE (g := (!(decide (endF (gW w 2) < 0) || decide (endF (gW w 4) < 0))) && decide ((w.length : Int) = 7)) (d := default) (v := gW w 6) (o := idx w 6) (fun h => idx1 6 rfl (by simp only [Bool.and_eq_true, decide_eq_true_eq] at h; omega))
  refine bindE e1 ?_
  obtain ⟨x3, e3, p3⟩ := whnE (g := (!(decide (endF (gW w 2) < 0) || decide (endF (gW w 4) < 0))) && (decide ((w.length : Int) = 7) && (!decide (x1 = (⟨[48]⟩ : Str))))) (d := default) (v := gW w 6) (o := idx w 6) (fun h => idx1 6 rfl (by simp only [Bool.and_eq_true, decide_eq_true_eq] at h; omega))
  refine bindE e3 ?_
  have hc : ((decide (endF (gW w 2) < 0) || decide (endF (gW w 4) < 0)) || ((decide ((w.length : Int) = 7) && (!decide (x1 = (⟨[48]⟩ : Str)))) && (!decide (x3 = (⟨[49]⟩ : Str))))) = badK w := by
    unfold badK
    have d7 : decide ((w.length : Int) = 7) = decide (w.length = 7) := by rw [decide_eq_decide]; omega
    rw [d7] at p1 p3 ⊢
    cases hA : (decide (endF (gW w 2) < 0) || decide (endF (gW w 4) < 0))
    · rw [hA] at p1 p3
      cases h7 : decide (w.length = 7)
      · rfl
      · rw [h7] at p1 p3
        have q1 := p1 rfl
        subst q1
        cases h0 : decide (gW w 6 = (⟨[48]⟩ : Str))
        · rw [h0] at p3
          rw [p3 rfl]
        · rfl
    · rfl
  rw [hc]
  by_cases hb : badK w = true
  · rw [if_pos hb, if_pos hb]
  · rw [if_neg hb, if_neg hb]
    have sl : l.Sections.length ≤ 140737488355328 := by have := b.sc; omega
    refine bindE (idx1 1 rfl (by omega)) (bindE (idx1 3 rfl (by omega)) (bindE (sname_m _ _ sl) (bindE (sname_m _ _ sl) ?_)))
    by_cases hs : secF l (gW w 1) < 0 ∨ secF l (gW w 3) < 0
    · rw [if_pos hs]; exact if_pos (by simpa using hs)
    · rw [if_neg hs]
      refine (if_neg (by simpa using hs)).trans ?_
      by_cases h7 : w.length = 7
      · rw [if_pos h7]
        refine (if_pos (by simp only [decide_eq_true_eq]; omega)).trans (bindE (idx1 5 rfl (by omega)) (bindE (index_m _ _ (by have := b.pt; omega)) ?_))
        by_cases hp : posF l.Points (gW w 5) < 0
        · rw [if_pos hp]; exact if_pos (by simpa using hp)
        · rw [if_neg hp]
          refine (if_neg (by simpa using hp)).trans (bindE (idx1 6 rfl (by omega)) ?_)
          by_cases h1 : gW w 6 = ⟨[49]⟩
          · rw [if_pos (show gW w 6 = ⟨[49]⟩ from h1)]
            exact (if_pos (by simpa using h1)).trans (declK_k2 l b _ _ _ _ _ _)
          · rw [if_neg (show ¬ gW w 6 = ⟨[49]⟩ from h1)]
            exact (if_neg (by simpa using h1)).trans (declK_k2 l b _ _ _ _ _ _)
      · rw [if_neg h7]
        exact (if_neg (by simp only [decide_eq_true_eq]; omega)).trans (declK_k2 l b _ _ _ _ _ _)

theorem decl_k1 (l : Layout) (b : Bd l) (w : List Str) (hw : ∀ x ∈ w, x.l.length ≤ 1000000) (h0 : 0 < w.length) : layout_declare_k1 w l () = some (declF l w) := by
  have e0 : idx w 0 = some (gW w 0) := idx1 0 rfl h0
  unfold layout_declare_k1 declF
  refine bindE e0 ?_
  by_cases c1 : gW w 0 = sW ∧ w.length = 2
  · rw [if_pos c1]
    exact (if_pos (by rw [Bool.and_eq_true, decide_eq_true_eq, decide_eq_true_eq]; exact ⟨c1.1, by omega⟩)).trans (bindE (idx1 1 rfl (by omega)) (chk_true (by have := b.st; simp; omega)))
  rw [if_neg c1]
  refine (if_neg (by rw [Bool.and_eq_true, decide_eq_true_eq, decide_eq_true_eq]; exact fun h => c1 ⟨h.1, by omega⟩)).trans (bindE e0 ?_)
  by_cases c2 : gW w 0 = pW ∧ w.length = 2
  · rw [if_pos c2]
    exact (if_pos (by rw [Bool.and_eq_true, decide_eq_true_eq, decide_eq_true_eq]; exact ⟨c2.1, by omega⟩)).trans (bindE (idx1 1 rfl (by omega)) (chk_true (by have := b.pt; simp; omega)))
  rw [if_neg c2]
  refine (if_neg (by rw [Bool.and_eq_true, decide_eq_true_eq, decide_eq_true_eq]; exact fun h => c2 ⟨h.1, by omega⟩)).trans (bindE e0 ?_)
  obtain ⟨x5, e5, p5⟩ := whnE (g := ((decide (gW w 0 = (⟨[115, 101, 99, 116, 105, 111, 110]⟩ : Str)) && !(decide ((w.length : Int) = 5))) && decide ((w.length : Int) = 7))) (d := default) (v := gW w 5) (o := idx w 5) (fun h => idx1 5 rfl (by simp only [Bool.and_eq_true, decide_eq_true_eq] at h; omega))
  refine bindE e5 ?_
  have hc : (decide (gW w 0 = (⟨[115, 101, 99, 116, 105, 111, 110]⟩ : Str)) && (decide ((w.length : Int) = 5) || (decide ((w.length : Int) = 7) && decide (x5 = (⟨[97, 116]⟩ : Str))))) = decide (gW w 0 = cW ∧ (w.length = 5 ∨ w.length = 7 ∧ gW w 5 = aW)) := by
    rw [Bool.eq_iff_iff]
    simp only [Bool.and_eq_true, Bool.or_eq_true, Bool.not_eq_true', decide_eq_true_eq, decide_eq_false_iff_not] at p5 ⊢
    constructor
    · rintro ⟨h1, h2⟩
      refine ⟨h1, ?_⟩
      rcases h2 with h2 | ⟨h2, h3⟩
      · exact .inl (by omega)
      · refine .inr ⟨by omega, ?_⟩
        rw [← p5 ⟨⟨h1, by omega⟩, h2⟩]; exact h3
    · rintro ⟨h1, h2⟩
      refine ⟨h1, ?_⟩
      rcases h2 with h2 | ⟨h2, h3⟩
      · exact .inl (by omega)
      · refine .inr ⟨by omega, ?_⟩
        rw [p5 ⟨⟨h1, by omega⟩, by omega⟩]; exact h3
  rw [hc]
  by_cases c3 : gW w 0 = cW ∧ (w.length = 5 ∨ w.length = 7 ∧ gW w 5 = aW)
  · rw [if_pos c3]
    exact (if_pos (by simpa using c3)).trans (bindE (declS_m l b w hw (by omega)) rfl)
  rw [if_neg c3]
  refine (if_neg (by simpa using c3)).trans (bindE e0 ?_)
  by_cases c4 : gW w 0 = kW ∧ (w.length = 5 ∨ w.length = 7)
  · rw [if_pos c4]
    exact (if_pos (by rw [Bool.and_eq_true, Bool.or_eq_true, decide_eq_true_eq, decide_eq_true_eq, decide_eq_true_eq]; exact ⟨c4.1, by omega⟩)).trans (bindE (declK_m l b w c4.2) rfl)
  · rw [if_neg c4]
    exact if_neg (by rw [Bool.and_eq_true, Bool.or_eq_true, decide_eq_true_eq, decide_eq_true_eq, decide_eq_true_eq]; exact fun h => c4 ⟨h.1, by omega⟩)

theorem decl_m (l : Layout) (b : Bd l) (ln : List Word) (hw : ∀ x ∈ ln.map (·.Text), x.l.length ≤ 1000000) (h0 : 0 < ln.length) (h64 : ln.length ≤ 64) : layout_declare_m l ln = some (declF l (ln.map (·.Text))) := by
  unfold layout_declare_m
  have := iter_list (B := layout_declare_b1 ln l) (fun (q : List Str) i => (q, i)) ln (fun q i => q.length ≤ i ∧ ∃ r, q ++ r = ln.map (·.Text) ∧ r = (ln.drop i).map (·.Text)) (fun q r => layout_declare_k1 (q ++ r.map (·.Text)) l ()) ?_ ?_ FUEL [] 0 ⟨by simp, _, rfl, by simp⟩ (by omega) (fuel_of (by omega))
  · rw [this]; exact decl_k1 l b _ hw (by simpa using h0)
  · intro c q i x r hq hdr hi hx hk
    simp only [layout_declare_b1]
    rw [if_pos (by simp; omega), hx, Option.bind_some, chk_true (by have := hq.1; simp; omega)]
    rw [hk _ ⟨by have := hq.1; simp; omega, (r.map (·.Text)), ?_, ?_⟩]
    · rw [List.append_assoc]; rfl
    · obtain ⟨_, t, h1, h2⟩ := hq
      rw [hdr] at h2
      rw [← h1, h2, List.append_assoc]; rfl
    · have : ln.drop (i + 1) = r := by rw [← List.drop_drop, hdr]; rfl
      rw [this]
  · intro c q hq
    simp only [layout_declare_b1]
    rw [if_neg (by simp)]
    simp

/-! ### The reference's line -/
end Go.Proofs.YtohhihdjdelckaaDoor

namespace Go.Proofs.YtohhihdjdelckaaDoor
open Go.Dc
set_option maxRecDepth 10000

/-! ### The words of a line are short -/
theorem tk_short (ln : Int) (n : Nat) : ∀ (l : List UInt8) (i : Nat) (prev : Bool) (acc r : List Word), tk ln l i prev acc = some r → i + l.length ≤ n → (∀ w ∈ acc, w.Text.l.length ≤ i) → ∀ w ∈ r, w.Text.l.length ≤ n
  | [], i, prev, acc, r, h, hn, ha => by
    simp only [tk, Option.some.injEq] at h
    subst h
    intro w hw
    have := ha w hw
    simp only [List.length_nil] at hn
    omega
  | c :: cs, i, prev, acc, r, h, hn, ha => by
    simp only [List.length_cons] at hn
    unfold tk at h
    split at h
    · simp only [Option.some.injEq] at h
      subst h
      intro w hw
      have := ha w hw
      omega
    · split at h
      · exact tk_short ln n cs (i + 1) false acc r h (by omega) (fun w hw => by have := ha w hw; omega)
      · split at h
        · cases prev with
          | true =>
            refine tk_short ln n cs (i + 1) true _ r h (by omega) (fun w hw => ?_)
            rcases List.mem_append.1 hw with hw | hw
            · have := ha w (List.dropLast_subset _ hw); omega
            · rw [List.mem_singleton] at hw
              subst hw
              simp only [List.length_append, List.length_cons, List.length_nil]
              cases acc with
              | nil => simp [List.getLastD]; show (default : Word).Text.l.length ≤ i; exact Nat.zero_le _
              | cons a tl =>
                have hm : (a :: tl).getLastD default ∈ a :: tl := by
                  rw [List.getLastD_eq_getLast?, List.getLast?_eq_some_getLast (by simp)]
                  exact List.getLast_mem _
                have := ha _ hm
                omega
          | false =>
            refine tk_short ln n cs (i + 1) true _ r h (by omega) (fun w hw => ?_)
            rcases List.mem_append.1 hw with hw | hw
            · have := ha w hw; omega
            · rw [List.mem_singleton] at hw
              subst hw
              simp
        · cases h
theorem nl_short (n : Nat) : ∀ l : List UInt8, l.length ≤ n → ∀ p ∈ splitNL l, p.length ≤ n := by
  intro l
  induction l generalizing n with
  | nil => intro _ p hp; simp [splitNL] at hp; subst hp; simp
  | cons c cs ih =>
    intro h p hp
    simp only [List.length_cons] at h
    unfold splitNL at hp
    split at hp
    · rcases List.mem_cons.1 hp with e | e
      · subst e; simp
      · exact ih n (by omega) p e
    · cases hs : splitNL cs with
      | nil => rw [hs] at hp; simp only [List.mem_singleton] at hp; subst hp; simp; omega
      | cons q qs =>
        rw [hs] at hp
        have i2 := ih (n - 1) (by omega)
        rcases List.mem_cons.1 hp with e | e
        · subst e
          have := i2 q (by rw [hs]; exact List.mem_cons_self)
          simp only [List.length_cons]; omega
        · have := i2 p (by rw [hs]; exact List.mem_cons_of_mem _ e)
          omega
def LOk (w : List Word) : Prop := 0 < w.length ∧ w.length ≤ 64 ∧ ∀ x ∈ w, x.Text.l.length ≤ 65536
theorem lns_ok : ∀ (ps : List (List UInt8)) (ln : Int) (acc : List (List Word)), (∀ p ∈ ps, p.length ≤ 65536) → (∀ w ∈ acc, LOk w) → ∀ w ∈ (lnsF ln ps acc).1, LOk w
  | [], ln, acc, _, h => h
  | p :: ps, ln, acc, hp, h => by
    unfold lnsF
    cases ht : toks ln p with
    | none => simp
    | some w =>
      simp only
      by_cases h64 : 64 < w.length
      · rw [if_pos h64]; simp
      · rw [if_neg h64]
        refine lns_ok ps (ln + 1) _ (fun q hq => hp q (List.mem_cons_of_mem _ hq)) (fun v hv => ?_)
        split at hv
        · rename_i h0
          rcases List.mem_append.1 hv with hv | hv
          · exact h v hv
          · rw [List.mem_singleton] at hv; subst hv
            exact ⟨h0, by omega, tk_short ln 65536 p 0 false [] _ ht (by have := hp p List.mem_cons_self; omega) (by simp)⟩
        · exact h v hv
theorem lines_ok (l : List UInt8) : ∀ w ∈ (linesR l).1, LOk w := by
  unfold linesR
  by_cases h : 65536 < l.length
  · rw [if_pos h]; simp
  · rw [if_neg h]
    exact lns_ok _ _ _ (nl_short 65536 l (by omega)) (by simp)

/-! ### The text -/
def noL : Layout := ⟨[], [], [], []⟩
def layD (d : Int × List Str × List Str × List Section × List Link) : Layout := ⟨d.2.1, d.2.2.1, d.2.2.2.1, d.2.2.2.2⟩
def parsF : Layout → List (List Word) → Layout × Int × Int
  | l, [] => if checkL (layOf l) ≠ 0 then (noL, 0, checkL (layOf l)) else (l, 0, 0)
  | l, ln :: r => if (declF l (ln.map (·.Text))).1 ≠ 0 then (noL, (ln.getD 0 default).Line, (declF l (ln.map (·.Text))).1) else parsF (layD (declF l (ln.map (·.Text)))) r
def parseF (s : List UInt8) : Layout × Int × Int := if (linesR s).2.2 ≠ 0 then (noL, (linesR s).2.1, (linesR s).2.2) else parsF noL (linesR s).1

structure Bn (n : Nat) (l : Layout) : Prop where
  st : l.Stations.length ≤ n
  pt : l.Points.length ≤ n
  sc : l.Sections.length ≤ n
  lk : l.Links.length ≤ n
theorem Bn.bd {n : Nat} {l : Layout} (h : Bn n l) (hn : n ≤ 1000000) : Bd l := ⟨Nat.le_trans h.st hn, Nat.le_trans h.pt hn, Nat.le_trans h.sc hn, Nat.le_trans h.lk hn⟩
theorem declS_len (l : Layout) (w : List Str) : (declS l w).2.length ≤ l.Sections.length + 1 := by
  unfold declS
  repeat' split
  all_goals first | exact Nat.le_succ _ | exact Nat.le_of_eq (List.length_append ..)
theorem declK_len (l : Layout) (w : List Str) : (declK l w).2.length ≤ l.Links.length + 1 := by
  unfold declK
  split
  · exact Nat.le_succ _
  split
  · exact Nat.le_succ _
  split
  · split
    · exact Nat.le_succ _
    · exact Nat.le_of_eq (List.length_append ..)
  · exact Nat.le_of_eq (List.length_append ..)
theorem declF_bn {n : Nat} {l : Layout} (h : Bn n l) (w : List Str) : Bn (n + 1) (layD (declF l w)) := by
  have a1 := h.st
  have a2 := h.pt
  have a3 := h.sc
  have a4 := h.lk
  have b1 := declS_len l w
  have b2 := declK_len l w
  unfold declF
  split
  · exact ⟨by simp [layD]; omega, by simp [layD]; omega, by simp [layD]; omega, by simp [layD]; omega⟩
  split
  · exact ⟨by simp [layD]; omega, by simp [layD]; omega, by simp [layD]; omega, by simp [layD]; omega⟩
  split
  · exact ⟨by simp [layD]; omega, by simp [layD]; omega, by simp only [layD]; omega, by simp [layD]; omega⟩
  split
  · exact ⟨by simp [layD]; omega, by simp [layD]; omega, by simp [layD]; omega, by simp only [layD]; omega⟩
  · exact ⟨by simp [layD]; omega, by simp [layD]; omega, by simp [layD]; omega, by simp [layD]; omega⟩

theorem bn_no : Bn 0 noL := ⟨Nat.le_refl _, Nat.le_refl _, Nat.le_refl _, Nat.le_refl _⟩
theorem getD_mem' {xs : List (List Word)} {i : Nat} {x : List Word} (h : idx xs (i : Int) = some x) : x ∈ xs := by
  rw [idx_nat] at h
  exact List.mem_of_getElem? h
theorem text_le {w : List Word} (h : LOk w) : ∀ x ∈ w.map (·.Text), x.l.length ≤ 1000000 := by
  intro x hx
  obtain ⟨y, hy, rfl⟩ := List.mem_map.1 hx
  have := h.2.2 y hy
  omega
theorem first_w {w : List Word} (h : LOk w) : idx w 0 = some (w.getD 0 default) := getD_idx (i := 0) (by omega) (by have := h.1; omega)

theorem parse_m (s : Str) : layout_Parse_m s = some (parseF s.l) := by
  have hlen := linesR_len s.l
  have hok := lines_ok s.l
  unfold layout_Parse_m parseF
  refine bindE (lines_m s) ?_
  generalize linesR s.l = y at hlen hok
  obtain ⟨xs, a, b⟩ := y
  by_cases hb : b ≠ 0
  · rw [if_pos (show b ≠ 0 from hb)]; exact if_pos (by simpa using hb)
  · rw [if_neg (show ¬ b ≠ 0 from hb)]
    refine (if_neg (by simpa using hb)).trans ?_
    have := iter_list (B := layout_Parse_b1 (xs, a, b)) (fun (l : Layout) i => (l.Stations, l.Points, l.Sections, l.Links, i)) xs (fun l i => Bn i l) (fun l r => some (parsF l r)) ?_ ?_ FUEL noL 0 bn_no (by omega) (fuel_of (by have := hlen.1; simp only at this; omega))
    · exact this
    · intro c l i x r hq hdr hi hx hk
      have ok := hok x (getD_mem' hx)
      have hn : i ≤ 1000000 := by have := hlen.1; simp only at this; omega
      simp only [layout_Parse_b1, parsF]
      rw [if_pos (by simp; omega), hx, Option.bind_some, show Layout.mk l.Stations l.Points l.Sections l.Links = l from rfl]
      refine bindE (decl_m l (hq.bd hn) x (text_le ok) ok.1 ok.2.1) ?_
      by_cases h : (declF l (x.map (fun w : Word => w.Text))).1 ≠ 0
      · rw [if_pos (show (declF l (x.map (fun w : Word => w.Text))).1 ≠ 0 from h)]
        exact (if_pos (by simpa using h)).trans (bindE (first_w ok) rfl)
      · rw [if_neg (show ¬ (declF l (x.map (fun w : Word => w.Text))).1 ≠ 0 from h)]
        exact (if_neg (by simpa using h)).trans (hk (layD (declF l (x.map (fun w : Word => w.Text)))) (declF_bn hq _))
    · intro c l hq
      simp only [layout_Parse_b1, parsF, layout_Parse_k1]
      rw [if_neg (by simp)]
      refine bindE (x := checkL (layOf l)) rfl ?_
      by_cases h : checkL (layOf l) ≠ 0
      · rw [if_pos (show checkL (layOf l) ≠ 0 from h)]; exact if_pos (by simpa using h)
      · rw [if_neg (show ¬ checkL (layOf l) ≠ 0 from h)]; exact if_neg (by simpa using h)

theorem sameS_m (a : List Str) (h : a.length ≤ 140737488355328) : keep_Same_string_m a a = some true := by
  unfold keep_Same_string_m
  rw [if_neg (by simp)]
  have := iter_list (B := keep_Same_string_b1 a a) (fun (_ : Unit) i => i) a (fun _ _ => True) (fun _ _ => some true) ?_ ?_ FUEL () 0 trivial (by omega) (fuel_of (by omega))
  · exact this
  · intro c _ i x q _ hdr hi hx hk
    simp only [keep_Same_string_b1]
    rw [if_pos (by simp; omega), hx, Option.bind_some, Option.bind_some, if_neg (by simp), hk () trivial]
  · intro c _ _
    simp only [keep_Same_string_b1]
    rw [if_neg (by simp)]
    rfl
theorem sameC_m (a : List Section) (h : a.length ≤ 140737488355328) : keep_Same_api_Section_m a a = some true := by
  unfold keep_Same_api_Section_m
  rw [if_neg (by simp)]
  have := iter_list (B := keep_Same_api_Section_b1 a a) (fun (_ : Unit) i => i) a (fun _ _ => True) (fun _ _ => some true) ?_ ?_ FUEL () 0 trivial (by omega) (fuel_of (by omega))
  · exact this
  · intro c _ i x q _ hdr hi hx hk
    simp only [keep_Same_api_Section_b1]
    rw [if_pos (by simp; omega), hx, Option.bind_some, Option.bind_some, if_neg (by simp), hk () trivial]
  · intro c _ _
    simp only [keep_Same_api_Section_b1]
    rw [if_neg (by simp)]
    rfl
theorem sameK_m (a : List Link) (h : a.length ≤ 140737488355328) : keep_Same_api_Link_m a a = some true := by
  unfold keep_Same_api_Link_m
  rw [if_neg (by simp)]
  have := iter_list (B := keep_Same_api_Link_b1 a a) (fun (_ : Unit) i => i) a (fun _ _ => True) (fun _ _ => some true) ?_ ?_ FUEL () 0 trivial (by omega) (fuel_of (by omega))
  · exact this
  · intro c _ i x q _ hdr hi hx hk
    simp only [keep_Same_api_Link_b1]
    rw [if_pos (by simp; omega), hx, Option.bind_some, Option.bind_some, if_neg (by simp), hk () trivial]
  · intro c _ _
    simp only [keep_Same_api_Link_b1]
    rw [if_neg (by simp)]
    rfl
theorem sameLay_m (l : Layout) (b : Bn 1000 l) : keep_SameLayout_m l l = some true := by
  have b1 := b.st
  have b2 := b.pt
  have b3 := b.sc
  have b4 := b.lk
  unfold keep_SameLayout_m
  refine bindE (sameS_m _ (by omega)) ?_
  rw [sameS_m _ (by omega), sameC_m _ (by omega), sameK_m _ (by omega)]
  rfl
end Go.Proofs.YtohhihdjdelckaaDoor

namespace Go.Proofs.YtohhihdjdelckaaDoor
open Go.Dc
set_option maxRecDepth 10000

theorem posS : ∀ (xs : List Str) (b i : Nat) (_ : xs.Nodup) (hi : i < xs.length), posP (fun x => decide (x = xs[i])) b xs = ((b + i : Nat) : Int)
  | [], _, _, _, hi => absurd hi (by simp)
  | x :: r, b, 0, _, _ => by simp [posP]
  | x :: r, b, i + 1, h, hi => by
    have hi' : i < r.length := by simpa using hi
    rw [List.nodup_cons] at h
    unfold posP
    rw [if_neg (by
      simp only [List.getElem_cons_succ, decide_eq_true_eq]
      exact fun e => h.1 (e ▸ List.getElem_mem hi'))]
    have := posS r (b + 1) i h.2 hi'
    simp only [List.getElem_cons_succ]
    rw [this]
    congr 1
    omega
theorem posF_at {xs : List Str} (h : xs.Nodup) {i : Int} (h0 : 0 ≤ i) (hi : i < xs.length) : posF xs (xs.getD i.toNat default) = i := by
  have hl : i.toNat < xs.length := by omega
  have := posS xs 0 i.toNat h hl
  unfold posF
  rw [List.getD_eq_getElem?_getD, List.getElem?_eq_getElem hl]
  show posP (fun x => decide (x = xs[i.toNat])) 0 xs = i
  rw [this]
  omega

theorem num_nI (v : Int) (h1 : -1099511627776 ≤ v) (h2 : v ≤ 1099511627776) : numS (nI v).l = (v, true) := itoa_num v h1 h2

theorem declS_5 (L : Layout) (n : Str) {a b c : Int} (ha : -1099511627776 ≤ a ∧ a ≤ 1099511627776) (hb : -1099511627776 ≤ b ∧ b ≤ 1099511627776) (hc : -1099511627776 ≤ c ∧ c ≤ 1099511627776) :
    declS L [cW, n, nI a, nI b, nI c] = (0, L.Sections ++ [⟨n, a, b, c, -1⟩]) := by
  have e2 : numS (gW [cW, n, nI a, nI b, nI c] 2).l = (a, true) := num_nI a ha.1 ha.2
  have e3 : numS (gW [cW, n, nI a, nI b, nI c] 3).l = (b, true) := num_nI b hb.1 hb.2
  have e4 : numS (gW [cW, n, nI a, nI b, nI c] 4).l = (c, true) := num_nI c hc.1 hc.2
  have e1 : gW [cW, n, nI a, nI b, nI c] 1 = n := rfl
  have hbad : badN [cW, n, nI a, nI b, nI c] = false := by unfold badN; rw [e2, e3, e4]; rfl
  unfold declS
  rw [if_neg (by rw [hbad]; exact Bool.false_ne_true), if_neg (by simp), e1, e2, e3, e4]
theorem declS_7 (L : Layout) (n s : Str) {a b c p : Int} (ha : -1099511627776 ≤ a ∧ a ≤ 1099511627776) (hb : -1099511627776 ≤ b ∧ b ≤ 1099511627776) (hc : -1099511627776 ≤ c ∧ c ≤ 1099511627776) (hp : posF L.Stations s = p) (h0 : 0 ≤ p) :
    declS L [cW, n, nI a, nI b, nI c, aW, s] = (0, L.Sections ++ [⟨n, a, b, c, p⟩]) := by
  have e2 : numS (gW [cW, n, nI a, nI b, nI c, aW, s] 2).l = (a, true) := num_nI a ha.1 ha.2
  have e3 : numS (gW [cW, n, nI a, nI b, nI c, aW, s] 3).l = (b, true) := num_nI b hb.1 hb.2
  have e4 : numS (gW [cW, n, nI a, nI b, nI c, aW, s] 4).l = (c, true) := num_nI c hc.1 hc.2
  have e1 : gW [cW, n, nI a, nI b, nI c, aW, s] 1 = n := rfl
  have e6 : gW [cW, n, nI a, nI b, nI c, aW, s] 6 = s := rfl
  have hbad : badN [cW, n, nI a, nI b, nI c, aW, s] = false := by unfold badN; rw [e2, e3, e4]; rfl
  unfold declS
  rw [if_neg (by rw [hbad]; exact Bool.false_ne_true), if_pos (by simp), e6, hp, if_neg (by omega), e1, e2, e3, e4]

theorem endF_W {e : Int} (h : e = 0 ∨ e = 1) : endF (endW e) = e := by rcases h with rfl | rfl <;> decide
theorem nI01 : nI 0 = ⟨[48]⟩ ∧ nI 1 = ⟨[49]⟩ := by
  constructor <;> decide +kernel

theorem declK_5 (L : Layout) (x y : Str) {a b u v : Int} (ha : secF L x = a) (hb : secF L y = b) (a0 : 0 ≤ a) (b0 : 0 ≤ b) (hu : u = 0 ∨ u = 1) (hv : v = 0 ∨ v = 1) :
    declK L [kW, x, endW u, y, endW v] = (0, L.Links ++ [⟨a, u, b, v, -1, 0⟩]) := by
  have e1 : gW [kW, x, endW u, y, endW v] 1 = x := rfl
  have e3 : gW [kW, x, endW u, y, endW v] 3 = y := rfl
  have e2 : endF (gW [kW, x, endW u, y, endW v] 2) = u := endF_W hu
  have e4 : endF (gW [kW, x, endW u, y, endW v] 4) = v := endF_W hv
  have hbad : badK [kW, x, endW u, y, endW v] = false := by
    unfold badK
    rw [e2, e4]
    have c1 : decide (u < 0) = false := by simp only [decide_eq_false_iff_not]; omega
    have c2 : decide (v < 0) = false := by simp only [decide_eq_false_iff_not]; omega
    rw [c1, c2]
    rfl
  unfold declK
  rw [if_neg (by rw [hbad]; exact Bool.false_ne_true), e1, e3, ha, hb, if_neg (by omega), if_neg (by simp), e2, e4]
theorem declK_7 (L : Layout) (x y s : Str) {a b u v p q : Int} (ha : secF L x = a) (hb : secF L y = b) (a0 : 0 ≤ a) (b0 : 0 ≤ b) (hu : u = 0 ∨ u = 1) (hv : v = 0 ∨ v = 1) (hp : posF L.Points s = p) (p0 : 0 ≤ p) (hq : q = 0 ∨ q = 1) :
    declK L [kW, x, endW u, y, endW v, s, nI q] = (0, L.Links ++ [⟨a, u, b, v, p, q⟩]) := by
  have e1 : gW [kW, x, endW u, y, endW v, s, nI q] 1 = x := rfl
  have e3 : gW [kW, x, endW u, y, endW v, s, nI q] 3 = y := rfl
  have e5 : gW [kW, x, endW u, y, endW v, s, nI q] 5 = s := rfl
  have e6 : gW [kW, x, endW u, y, endW v, s, nI q] 6 = nI q := rfl
  have e2 : endF (gW [kW, x, endW u, y, endW v, s, nI q] 2) = u := endF_W hu
  have e4 : endF (gW [kW, x, endW u, y, endW v, s, nI q] 4) = v := endF_W hv
  have q01 : (!decide (nI q = ⟨[48]⟩) && !decide (nI q = ⟨[49]⟩)) = false ∧ (if nI q = ⟨[49]⟩ then (1 : Int) else 0) = q := by
    rcases hq with rfl | rfl
    · rw [nI01.1]; exact ⟨by decide, by decide⟩
    · rw [nI01.2]; exact ⟨by decide, by decide⟩
  have hbad : badK [kW, x, endW u, y, endW v, s, nI q] = false := by
    unfold badK
    rw [e2, e4, e6]
    have c1 : decide (u < 0) = false := by simp only [decide_eq_false_iff_not]; omega
    have c2 : decide (v < 0) = false := by simp only [decide_eq_false_iff_not]; omega
    rw [c1, c2]
    show ((false || false) || ((true && !decide (nI q = ⟨[48]⟩)) && !decide (nI q = ⟨[49]⟩))) = false
    rw [Bool.true_and, q01.1]; rfl
  unfold declK
  rw [if_neg (by rw [hbad]; exact Bool.false_ne_true), e1, e3, ha, hb, if_neg (by omega), if_pos (by simp), e5, hp, if_neg (by omega), e2, e4, e6, q01.2]

/-! ### Line by line -/
def parsS : Layout → List (List Str) → Option Layout
  | l, [] => some l
  | l, w :: r => if (declF l w).1 ≠ 0 then none else parsS (layD (declF l w)) r
theorem pars_at : ∀ (ws : List (List Str)) (ln : Int) (l x : Layout), parsS l ws = some x → parsF l (linesAt ln ws) = parsF x []
  | [], _, l, x, h => by simp only [parsS, Option.some.injEq] at h; subst h; rfl
  | w :: r, ln, l, x, h => by
    unfold parsS at h
    have e : (wordsAt ln w 0).map (fun x : Word => x.Text) = w := wordsAt_text ln w 0
    simp only [linesAt, parsF]
    rw [e]
    by_cases hd : (declF l w).1 ≠ 0
    · rw [if_pos hd] at h; cases h
    · rw [if_neg hd] at h
      rw [if_neg (show ¬ (declF l w).1 ≠ 0 from hd)]
      exact pars_at r _ _ _ h
theorem parsS_step {l : Layout} {w : List Str} {S P : List Str} {C : List Section} {K : List Link} (h : declF l w = (0, S, P, C, K)) (r : List (List Str)) : parsS l (w :: r) = parsS ⟨S, P, C, K⟩ r := by
  simp only [parsS]
  rw [h]
  exact if_neg (by simp)

theorem par4 {l : Layout} (v : ValN l) : ∀ (r : List Link) (done : List Link), (∀ k ∈ r, k ∈ l.Links) → parsS ⟨l.Stations, l.Points, l.Sections, done⟩ (r.map (kLine l)) = some ⟨l.Stations, l.Points, l.Sections, done ++ r⟩
  | [], done, _ => by simp [parsS]
  | k :: r, done, h => by
    have hk := h k List.mem_cons_self
    obtain ⟨hA, hB, hae, hbe, hP, _⟩ := v.links k hk
    have hp := v.pos k hk
    have ih := par4 v r (done ++ [k]) (fun q hq => h q (List.mem_cons_of_mem _ hq))
    have fA : secF ⟨l.Stations, l.Points, l.Sections, done⟩ (scN l k.A) = k.A := by
      have := posF_at v.scd hA.1 (by simpa using hA.2)
      unfold secF
      rw [← this]
      congr 1
      unfold scN
      rw [this, List.getD_eq_getElem?_getD, List.getD_eq_getElem?_getD, List.getElem?_map, List.getElem?_eq_getElem (show k.A.toNat < l.Sections.length by omega)]
      rfl
    have fB : secF ⟨l.Stations, l.Points, l.Sections, done⟩ (scN l k.B) = k.B := by
      have := posF_at v.scd hB.1 (by simpa using hB.2)
      unfold secF
      rw [← this]
      congr 1
      unfold scN
      rw [this, List.getD_eq_getElem?_getD, List.getD_eq_getElem?_getD, List.getElem?_map, List.getElem?_eq_getElem (show k.B.toNat < l.Sections.length by omega)]
      rfl
    have hd : declF ⟨l.Stations, l.Points, l.Sections, done⟩ (kLine l k) = (0, l.Stations, l.Points, l.Sections, done ++ [k]) := by
      unfold kLine
      by_cases hst : k.Point = -1
      · rw [if_pos hst]
        show declF _ [kW, scN l k.A, endW k.AEnd, scN l k.B, endW k.BEnd] = _
        unfold declF
        rw [if_neg (fun h => absurd h.2 (by simp)), if_neg (fun h => absurd h.2 (by simp)), if_neg (fun h => absurd h.1 (show ¬ kW = cW by decide)), if_pos ⟨rfl, .inl rfl⟩]
        rw [declK_5 _ _ _ fA fB hA.1 hB.1 hae hbe]
        have : k.Pos = 0 := by omega
        obtain ⟨_, _, _, _, _, _⟩ := k
        simp only at hst this
        subst hst this
        rfl
      · rw [if_neg hst]
        show declF _ [kW, scN l k.A, endW k.AEnd, scN l k.B, endW k.BEnd, ptN l k.Point, nI k.Pos] = _
        unfold declF
        rw [if_neg (fun h => absurd h.2 (by simp)), if_neg (fun h => absurd h.2 (by simp)), if_neg (fun h => absurd h.1 (show ¬ kW = cW by decide)), if_pos ⟨rfl, .inr rfl⟩]
        have fp : posF l.Points (ptN l k.Point) = k.Point := posF_at v.ptd (by omega) hP.2
        rw [declK_7 ⟨l.Stations, l.Points, l.Sections, done⟩ _ _ _ fA fB hA.1 hB.1 hae hbe fp (by omega) (by omega)]
    rw [List.map_cons, parsS_step hd, ih]
    simp

theorem par3 {l : Layout} (v : ValN l) : ∀ (r done : List Section), (∀ s ∈ r, s ∈ l.Sections) → parsS ⟨l.Stations, l.Points, done, []⟩ (r.map (scLine l)) = some ⟨l.Stations, l.Points, done ++ r, []⟩
  | [], done, _ => by simp [parsS]
  | s :: r, done, h => by
    have hs := h s List.mem_cons_self
    have hr := v.secs s hs
    have ht := v.scs s hs
    have ih := par3 v r (done ++ [s]) (fun q hq => h q (List.mem_cons_of_mem _ hq))
    have hd : declF ⟨l.Stations, l.Points, done, []⟩ (scLine l s) = (0, l.Stations, l.Points, done ++ [s], []) := by
      unfold scLine
      by_cases hst : s.Station = -1
      · rw [if_pos hst]
        show declF _ [cW, s.Name, nI s.Length, nI s.Limit, nI s.Grade] = _
        unfold declF
        rw [if_neg (fun h => absurd h.2 (by simp)), if_neg (fun h => absurd h.2 (by simp)), if_pos ⟨rfl, .inl rfl⟩]
        rw [declS_5 _ _ (by omega) (by omega) (by omega)]
        obtain ⟨_, _, _, _, _⟩ := s
        simp only at hst
        subst hst
        rfl
      · rw [if_neg hst]
        show declF _ [cW, s.Name, nI s.Length, nI s.Limit, nI s.Grade, aW, stN l s.Station] = _
        unfold declF
        rw [if_neg (fun h => absurd h.2 (by simp)), if_neg (fun h => absurd h.2 (by simp)), if_pos ⟨rfl, .inr ⟨rfl, rfl⟩⟩]
        have fp : posF l.Stations (stN l s.Station) = s.Station := posF_at v.std (by omega) ht.2
        rw [declS_7 ⟨l.Stations, l.Points, done, []⟩ _ _ (by omega) (by omega) (by omega) fp (by omega)]
    rw [List.map_cons, parsS_step hd, ih]
    simp

theorem par2 (S : List Str) : ∀ (r done : List Str), parsS ⟨S, done, [], []⟩ (r.map (fun s => [pW, s])) = some ⟨S, done ++ r, [], []⟩
  | [], done => by simp [parsS]
  | s :: r, done => by
    have hd : declF ⟨S, done, [], []⟩ [pW, s] = (0, S, done ++ [s], [], []) := by
      unfold declF
      rw [if_neg (fun h => absurd h.1 (show ¬ pW = sW by decide)), if_pos ⟨rfl, rfl⟩]
      rfl
    rw [List.map_cons, parsS_step hd, par2 S r]
    simp
theorem par1 : ∀ (r done : List Str), parsS ⟨done, [], [], []⟩ (r.map (fun s => [sW, s])) = some ⟨done ++ r, [], [], []⟩
  | [], done => by simp [parsS]
  | s :: r, done => by
    have hd : declF ⟨done, [], [], []⟩ [sW, s] = (0, done ++ [s], [], [], []) := by
      unfold declF
      rw [if_pos ⟨rfl, rfl⟩]
      rfl
    rw [List.map_cons, parsS_step hd, par1 r]
    simp
theorem parsS_app : ∀ (a b : List (List Str)) (l : Layout), parsS l (a ++ b) = (parsS l a).bind (fun x => parsS x b)
  | [], _, _ => rfl
  | w :: a, b, l => by
    simp only [List.cons_append, parsS]
    by_cases h : (declF l w).1 ≠ 0
    · rw [if_pos h, if_pos h]; rfl
    · rw [if_neg h, if_neg h]; exact parsS_app a b _
theorem pars_fmt {l : Layout} (v : ValN l) : parsS noL (fmtL l) = some l := by
  unfold fmtL noL
  rw [parsS_app, parsS_app, parsS_app, par1, Option.bind_some, par2, Option.bind_some]
  simp only [List.nil_append]
  rw [par3 v l.Sections [] (fun _ h => h), Option.bind_some, List.nil_append, par4 v l.Links [] (fun _ h => h)]
  rfl
theorem parse_fmt {l : Layout} (h : checkL (layOf l) = 0) (hl : (fmtL l).length ≤ 300) : parseF (fmtS l).l = (l, 0, 0) := by
  have v := valN_of h
  unfold fmtS
  rw [if_pos h]
  have hj := joinT_le (fmtL l) (fun w hw => (fmt_ok v w hw).2)
  have e : linesR (joinT (fmtL l)) = (linesAt 1 (fmtL l), 0, 0) := lines_join _ (fun w hw => (fmt_ok v w hw).1) (by omega)
  unfold parseF
  rw [show (⟨joinT (fmtL l)⟩ : Str).l = joinT (fmtL l) from rfl, e]
  refine (if_neg (by simp)).trans ?_
  show parsF noL (linesAt 1 (fmtL l)) = _
  rw [pars_at _ _ _ _ (pars_fmt v)]
  simp only [parsF]
  exact if_neg (by simpa using h)
end Go.Proofs.YtohhihdjdelckaaDoor

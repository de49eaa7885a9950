/- The contract of layout.Check: it returns checkL. -/
import Derived.Test.YtohhihdjdelckaaDoorLinks
set_option linter.all false
namespace Go.Proofs.YtohhihdjdelckaaDoor
open Go.Eng Go.RowKit
set_option maxRecDepth 10000

def namesErr : List ByteArray → List ByteArray → Int
  | _, [] => 0
  | seen, s :: r => if nameErr s seen ≠ 0 then nameErr s seen else namesErr (seen ++ [s]) r
def secsErr (nst : Nat) : List ByteArray → List Sec → Int
  | _, [] => 0
  | seen, s :: r => if nameErr s.name seen ≠ 0 then nameErr s.name seen else if secB nst s = false then 4 else secsErr nst (seen ++ [s.name]) r
def fullB (l : Lay) : Bool := decide (24 < l.stations.length ∨ 48 < l.points.length ∨ 96 < l.sections.length ∨ 192 < l.links.length)
def checkL (l : Lay) : Int :=
  if fullB l = true then 7 else if l.sections.length = 0 then 1 else
  if namesErr [] l.stations ≠ 0 then namesErr [] l.stations else if namesErr [] l.points ≠ 0 then namesErr [] l.points else
  if secsErr l.stations.length [] l.sections ≠ 0 then secsErr l.stations.length [] l.sections else linksErr l [] l.links

theorem names_step {names : List ByteArray} {j : Nat} (hj : j < names.length) (h : namesErr (names.take j) (names.drop j) = namesErr [] names) :
    (nameErr (names.getD j ByteArray.empty) (names.take j) ≠ 0 → namesErr [] names = nameErr (names.getD j ByteArray.empty) (names.take j)) ∧
    (nameErr (names.getD j ByteArray.empty) (names.take j) = 0 → namesErr (names.take (j + 1)) (names.drop (j + 1)) = namesErr [] names ∧ seenAfter (names.getD j ByteArray.empty) (names.take j) = names.take (j + 1)) := by
  have hd : names.drop j = names[j] :: names.drop (j + 1) := List.drop_eq_getElem_cons hj
  have hg : names.getD j ByteArray.empty = names[j] := by simp [List.getD_eq_getElem?_getD, hj]
  have ht : names.take (j + 1) = names.take j ++ [names[j]] := by rw [List.take_succ_eq_append_getElem hj]
  rw [hd, namesErr] at h
  rw [hg]
  constructor
  · intro hn; rw [if_pos hn] at h; exact h.symm
  · intro hn
    rw [if_neg (by simp [hn])] at h
    rw [ht]
    exact ⟨h, se2 hn⟩

theorem names_end {names : List ByteArray} {j : Nat} (hj : names.length ≤ j) (h : namesErr (names.take j) (names.drop j) = namesErr [] names) : namesErr [] names = 0 := by
  rw [← h, List.drop_eq_nil_of_le hj, namesErr]

def nmI (l : Lay) (i : Int) : List ByteArray := if i = 0 then l.stations else l.points
def adI (v : LayV) (i : Int) : Option Addr := if i = 0 then v.a1 else v.a2
def cpI (v : LayV) (i : Int) : Nat := if i = 0 then v.c1 else v.c2

theorem strCells_get {names : List ByteArray} {j : Nat} (hj : j < names.length) : (strCells names)[j]? = some (.string (names.getD j ByteArray.empty)) := by
  simp [strCells, hj]

theorem flat_get {α : Type} {enc : α → List Value} {sz : Nat} (he : ∀ x, (enc x).length = sz) : ∀ (xs : List α) (i j : Nat), j < sz → (xs.flatMap enc)[i * sz + j]? = (xs[i]?).bind (fun x => (enc x)[j]?)
  | [], i, j, _ => by simp
  | x :: xs, 0, j, hj => by
    simp only [List.flatMap_cons, Nat.zero_mul, Nat.zero_add]
    rw [List.getElem?_append_left (by rw [he]; exact hj)]
    rfl
  | x :: xs, i + 1, j, hj => by
    simp only [List.flatMap_cons]
    rw [List.getElem?_append_right (by rw [he, Nat.add_mul]; omega), he]
    rw [show (i + 1) * sz + j - sz = i * sz + j by rw [Nat.add_mul]; omega]
    rw [flat_get he xs i j hj]
    simp

theorem flat_len {α : Type} {enc : α → List Value} {sz : Nat} (he : ∀ x, (enc x).length = sz) (xs : List α) : (xs.flatMap enc).length = xs.length * sz := by
  induction xs with
  | nil => simp
  | cons x xs ih => simp only [List.flatMap_cons, List.length_append, he, ih, List.length_cons, Nat.add_mul]; omega

def secD : Sec := ⟨ByteArray.empty, 0, 0, 0, 0⟩
theorem sec_get {xs : List Sec} {i j : Nat} {u : Value} (hi : i < xs.length) (hj : (Sec.cells (xs.getD i secD))[j]? = some u) : (xs.flatMap Sec.cells)[i * 5 + j]? = some u := by
  have hjl : j < 5 := by have := (List.getElem?_eq_some_iff.1 hj).1; simpa [Sec.cells] using this
  rw [flat_get (enc := Sec.cells) (sz := 5) (fun _ => rfl) xs i j hjl]
  have : xs[i]? = some (xs.getD i secD) := by simp [hi]
  rw [this]
  exact hj

theorem secs_step {nst : Nat} {xs : List Sec} {j : Nat} (hj : j < xs.length) (h : secsErr nst ((xs.take j).map Sec.name) (xs.drop j) = secsErr nst [] xs) :
    (nameErr (xs.getD j secD).name ((xs.take j).map Sec.name) ≠ 0 → secsErr nst [] xs = nameErr (xs.getD j secD).name ((xs.take j).map Sec.name)) ∧
    (nameErr (xs.getD j secD).name ((xs.take j).map Sec.name) = 0 → seenAfter (xs.getD j secD).name ((xs.take j).map Sec.name) = (xs.take (j + 1)).map Sec.name ∧
      (secB nst (xs.getD j secD) = false → secsErr nst [] xs = 4) ∧ (secB nst (xs.getD j secD) = true → secsErr nst ((xs.take (j + 1)).map Sec.name) (xs.drop (j + 1)) = secsErr nst [] xs)) := by
  have hd : xs.drop j = xs[j] :: xs.drop (j + 1) := List.drop_eq_getElem_cons hj
  have hg : xs.getD j secD = xs[j] := by simp [List.getD_eq_getElem?_getD, hj]
  have ht : (xs.take (j + 1)).map Sec.name = (xs.take j).map Sec.name ++ [xs[j].name] := by rw [List.take_succ_eq_append_getElem hj, List.map_append]; rfl
  rw [hd, secsErr] at h
  rw [hg]
  constructor
  · intro hn; rw [if_pos hn] at h; exact h.symm
  · intro hn
    rw [if_neg (fun h => h hn)] at h
    rw [ht]
    refine ⟨se2 hn, fun hb => ?_, fun hb => ?_⟩
    · rw [if_pos hb] at h; exact h.symm
    · rw [if_neg (by simp [hb])] at h; exact h

theorem secs_end {nst : Nat} {xs : List Sec} {j : Nat} (hj : xs.length ≤ j) (h : secsErr nst ((xs.take j).map Sec.name) (xs.drop j) = secsErr nst [] xs) : secsErr nst [] xs = 0 := by
  rw [← h, List.drop_eq_nil_of_le hj, secsErr]

theorem nmI_get {v : LayV} {l : Lay} {i : Int} (h0 : 0 ≤ i) (h : i < 2) : ([.slice v.a1 l.stations.length v.c1, .slice v.a2 l.points.length v.c2] : List Value)[i.toNat]? = some (.slice (adI v i) (nmI l i).length (cpI v i)) := by
  have : i = 0 ∨ i = 1 := by omega
  rcases this with rfl | rfl <;> rfl

theorem names_next {l : Lay} {i : Int} (h0 : 0 ≤ i) (h2 : i < 2) (hst : 1 ≤ i → namesErr [] l.stations = 0) (hn : namesErr [] (nmI l i) = 0) :
    0 ≤ i + 1 ∧ i + 1 ≤ 2 ∧ (1 ≤ i + 1 → namesErr [] l.stations = 0) ∧ (2 ≤ i + 1 → namesErr [] l.points = 0) := by
  have : i = 0 ∨ i = 1 := by omega
  rcases this with rfl | rfl
  · exact ⟨by omega, by omega, fun _ => hn, by omega⟩
  · exact ⟨by omega, by omega, fun _ => hst (by omega), fun _ => hn⟩

theorem names_ret {l : Lay} {i e : Int} (h0 : 0 ≤ i) (h2 : i < 2) (hf : fullB l = false) (hs : ¬ l.sections.length = 0) (hst : 1 ≤ i → namesErr [] l.stations = 0) (he : namesErr [] (nmI l i) = e) (hne : e ≠ 0) : checkL l = e := by
  have : i = 0 ∨ i = 1 := by omega
  rcases this with rfl | rfl
  · have he' : namesErr [] l.stations = e := he
    rw [checkL, if_neg (by simp [hf]), if_neg hs, if_pos (by rw [he']; exact hne), he']
  · have he' : namesErr [] l.points = e := he
    rw [checkL, if_neg (by simp [hf]), if_neg hs, if_neg (by simp [hst (by omega)]), if_pos (by rw [he']; exact hne), he']

theorem secs_ret {l : Lay} {e : Int} (hf : fullB l = false) (hs : ¬ l.sections.length = 0) (hst : namesErr [] l.stations = 0) (hpt : namesErr [] l.points = 0) (he : secsErr l.stations.length [] l.sections = e) (hne : e ≠ 0) : checkL l = e := by
  rw [checkL, if_neg (by simp [hf]), if_neg hs, if_neg (by simp [hst]), if_neg (by simp [hpt]), if_pos (by rw [he]; exact hne), he]

theorem links_ret {l : Lay} (hf : fullB l = false) (hs : ¬ l.sections.length = 0) (hst : namesErr [] l.stations = 0) (hpt : namesErr [] l.points = 0) (he : secsErr l.stations.length [] l.sections = 0) : checkL l = linksErr l [] l.links := by
  rw [checkL, if_neg (by simp [hf]), if_neg hs, if_neg (by simp [hst]), if_neg (by simp [hpt]), if_neg (by simp [he])]

theorem check_of (w : World) (v : LayV) (l : Lay) (hl : LayAt 0 w.heap.size w v l)
    (hck : l.sections.length ≤ 96 ∧ l.links.length ≤ 192 → ∀ w' : World, LayAt 0 w'.heap.size w' v l → Calls Tryd.prog 37 #[.agg (v.cells l).toArray] w' (Ret w' (.int .i64 (linksErr l [] l.links)))) : Calls Tryd.prog 13 #[.agg (v.cells l).toArray] w (Ret w (.int .i64 (checkL l))) := by
  refine calls_cw (args := [_]) Tryd.func13 rfl (Mem.start w) rfl ?_
  refine cw_seq fun K1 hK1 => ?_
  refine cw_region ?_
  refine ow_cons (st_box (k := fun b1 => ?_))
  refine ow_ev ev_assign ?_
  refine ow_nil (hK1 _ _ ?_); clear hK1
  refine cw_seq fun K2 hK2 => ?_
  refine cw_block ?_
  refine cw_cut (γ := Bool) (env := fun q => [(1, .v (.pointer (some ⟨b1, 0, none⟩))), (13, .v (.bool q))]) (mem := fun q => [own b1 26 (v.cells l), old w]) (R := fun q => q = fullB l) ?_ ?_
  · intro KJ3 hJ3
    refine cw_seq fun K4 hK4 => ?_
    refine cw_region ?_
    refine ow_ev (ev_field_addr 0) ?_
    refine ow_ev ev_load_own ?_
    refine ow_ev ev_len ?_
    refine ow_ev ev_gtr ?_
    refine ow_ev ev_assign ?_
    refine ow_nil (hK4 _ _ ?_); clear hK4
    refine cw_if rfl (fun hc1 => ?_) (fun hc1 => ?_)  -- t13
    ·
      refine cw_skip (hJ3 (_) _ _ (by simp only [fullB]; congr 1; simp only [eq_iff_iff]; omega) ⟨rfl, rfl, trivial⟩ (fun _ h => h))
    ·
      refine cw_seq fun K5 hK5 => ?_
      refine cw_region ?_
      refine ow_ev (ev_field_addr 1) ?_
      refine ow_ev ev_load_own ?_
      refine ow_ev ev_len ?_
      refine ow_ev ev_gtr ?_
      refine ow_ev ev_assign ?_
      refine ow_nil (hK5 _ _ ?_); clear hK5
      refine cw_if rfl (fun hc2 => ?_) (fun hc2 => ?_)  -- t13
      ·
        refine cw_skip (hJ3 (_) _ _ (by simp only [fullB]; congr 1; simp only [eq_iff_iff]; omega) ⟨rfl, rfl, trivial⟩ (fun _ h => h))
      ·
        refine cw_seq fun K6 hK6 => ?_
        refine cw_region ?_
        refine ow_ev (ev_field_addr 2) ?_
        refine ow_ev ev_load_own ?_
        refine ow_ev ev_len ?_
        refine ow_ev ev_gtr ?_
        refine ow_ev ev_assign ?_
        refine ow_nil (hK6 _ _ ?_); clear hK6
        refine cw_if rfl (fun hc3 => ?_) (fun hc3 => ?_)  -- t13
        ·
          refine cw_skip (hJ3 (_) _ _ (by simp only [fullB]; congr 1; simp only [eq_iff_iff]; omega) ⟨rfl, rfl, trivial⟩ (fun _ h => h))
        ·
          refine cw_region ?_
          refine ow_ev (ev_field_addr 3) ?_
          refine ow_ev ev_load_own ?_
          refine ow_ev ev_len ?_
          refine ow_ev ev_gtr ?_
          refine ow_ev ev_assign ?_
          refine ow_nil (hJ3 (_) _ _ (by simp only [fullB]; congr 1; simp only [eq_iff_iff]; omega) ⟨rfl, rfl, trivial⟩ (fun _ h => h))
  · intro q hR
    refine cw_cond rfl (fun hc4 => ?_) (fun hc4 => ?_)  -- t13
    ·
      refine cw_seq fun K7 hK7 => ?_
      refine cw_region ?_
      refine ow_ev ev_assign ?_
      refine ow_nil (hK7 _ _ ?_); clear hK7
      refine cw_ret (kw_ret1 rfl rfl (fun w hm => ret_of hm (by rw [checkL, if_pos (by rw [← hR, hc4])])))
    ·
      have hfull : fullB l = false := by rw [← hR, hc4]
      have hb : l.stations.length ≤ 24 ∧ l.points.length ≤ 48 ∧ l.sections.length ≤ 96 ∧ l.links.length ≤ 192 := by simp only [fullB, decide_eq_false_iff_not] at hfull; omega
      obtain ⟨hb1, hb2, hb3, hb4⟩ := hb
      refine cw_seq fun K8 hK8 => ?_
      refine cw_region ?_
      refine ow_ev (ev_field_addr 2) ?_
      refine ow_ev ev_load_own ?_
      refine ow_ev ev_len ?_
      refine ow_ev ev_eql ?_
      refine ow_ev ev_assign ?_
      refine ow_nil (hK8 _ _ ?_); clear hK8
      refine cw_if rfl (fun hc5 => ?_) (fun hc5 => ?_)  -- t30
      ·
        refine cw_seq fun K9 hK9 => ?_
        refine cw_region ?_
        refine ow_ev ev_assign ?_
        refine ow_nil (hK9 _ _ ?_); clear hK9
        refine cw_ret (kw_ret1 rfl rfl (fun w hm => ret_of hm (by rw [checkL, if_neg (by simp [hfull]), if_pos (by omega)])))
      ·
        refine cw_skip (hK2 _ _ ?_); clear hK2
        refine cw_seq fun K10 hK10 => ?_
        refine cw_seq fun K11 hK11 => ?_
        refine cw_region ?_
        refine ow_ev (ev_field_addr 0) ?_
        refine ow_ev ev_load_own ?_
        refine ow_ev (ev_field_addr 1) ?_
        refine ow_ev ev_load_own ?_
        refine ow_ev ev_build2 ?_
        refine ow_ev ev_move ?_
        refine ow_nil (hK11 _ _ ?_); clear hK11
        refine cw_block ?_
        refine cw_loop (γ := Int) (env := fun i => [(1, .v (.pointer (some ⟨b1, 0, none⟩))), (39, .v (.agg #[.slice v.a1 l.stations.length v.c1, .slice v.a2 l.points.length v.c2])), (40, .v (.int .i64 i))]) (mem := fun i => [own b1 26 (v.cells l), old w]) (R := fun i => 0 ≤ i ∧ i ≤ 2 ∧ (1 ≤ i → namesErr [] l.stations = 0) ∧ (2 ≤ i → namesErr [] l.points = 0)) (μ := fun i => (2 - i).toNat) (0) (⟨by omega, by omega, by omega, by omega⟩) ⟨rfl, rfl, rfl, trivial⟩ (fun _ h => h) ?_
        intro i hR1 KL1 hL1
        obtain ⟨hi0, hi2, hst0, hpt0⟩ := hR1
        refine cw_seq fun K12 hK12 => ?_
        refine cw_region ?_
        refine ow_ev ev_lss ?_
        refine ow_nil (hK12 _ _ ?_); clear hK12
        refine cw_seq fun K13 hK13 => ?_
        refine cw_if rfl (fun hc6 => ?_) (fun hc6 => ?_)  -- t41
        ·
          refine cw_skip (hK13 _ _ ?_); clear hK13
          refine cw_seq fun K14 hK14 => ?_
          refine cw_block ?_
          refine cw_seq fun K15 hK15 => ?_
          refine cw_region ?_
          refine ow_ev (ev_index_array (v := .slice (adI v i) (nmI l i).length (cpI v i)) 2 (fun _ => by omega) (fun _ => nmI_get hi0 hc6)) ?_
          refine ow_ev ev_assign ?_
          refine ow_nil (hK15 _ _ ?_); clear hK15
          refine cw_seq fun K16 hK16 => ?_
          refine cw_region ?_
          refine ow_cons (st_makeMap_set (k := fun b5 => ?_))
          refine ow_ev ev_assign ?_
          refine ow_nil (hK16 _ _ ?_); clear hK16
          refine cw_seq fun K17 hK17 => ?_
          refine cw_region ?_
          refine ow_ev ev_move ?_
          have hnl : (nmI l i).length ≤ 48 := by unfold nmI; split <;> omega
          have hns : Sl 0 w.heap.size w (adI v i) (strCells (nmI l i)) := by unfold adI nmI; split; exact hl.st; exact hl.pt
          refine ow_ev ev_len ?_
          refine ow_ev ev_move ?_
          refine ow_nil (hK17 _ _ ?_); clear hK17
          refine cw_block ?_
          refine cw_loop (γ := Int) (env := fun j => [(1, .v (.pointer (some ⟨b1, 0, none⟩))), (39, .v (.agg #[.slice v.a1 l.stations.length v.c1, .slice v.a2 l.points.length v.c2])), (40, .v (.int .i64 i)), (5, .v (.map (some b5))), (44, .v (.slice (adI v i) (nmI l i).length (cpI v i))), (45, .v (.int .i64 ((nmI l i).length : Int))), (46, .v (.int .i64 j))]) (mem := fun j => [kset b5 ((nmI l i).take j.toNat), own b1 26 (v.cells l), old w]) (R := fun j => 0 ≤ j ∧ j ≤ (nmI l i).length ∧ namesErr ((nmI l i).take j.toNat) ((nmI l i).drop j.toNat) = namesErr [] (nmI l i)) (μ := fun j => ((nmI l i).length - j).toNat) (0) (⟨by omega, by omega, rfl⟩) ⟨rfl, rfl, rfl, rfl, rfl, rfl, rfl, trivial⟩ (fun _ h => h) ?_
          intro j hR2 KL2 hL2
          obtain ⟨hj0, hj1, hj2⟩ := hR2
          refine cw_seq fun K18 hK18 => ?_
          refine cw_region ?_
          refine ow_ev ev_lss ?_
          refine ow_nil (hK18 _ _ ?_); clear hK18
          refine cw_seq fun K19 hK19 => ?_
          refine cw_if rfl (fun hc7 => ?_) (fun hc7 => ?_)  -- t47
          ·
            refine cw_skip (hK19 _ _ ?_); clear hK19
            refine cw_seq fun K20 hK20 => ?_
            refine cw_block ?_
            refine cw_seq fun K21 hK21 => ?_
            refine cw_region ?_
            refine ow_ev (ev_index_addr' 1 (fun _ => hns.addr (by simp [strCells]; omega))) ?_
            refine ow_ev (ev_load_at (cell_old (j := j.toNat * 1) hns (by rw [Nat.mul_one]; exact strCells_get (by omega)) (Nat.le_refl _) (by repeat (first | exact Has.head | apply Has.tail)))) ?_
            refine ow_ev ev_assign ?_
            refine ow_nil (hK21 _ _ ?_); clear hK21
            refine cw_seq fun K22 hK22 => ?_
            refine cw_region ?_
            refine ow_ev ev_move ?_
            refine ow_ev ev_move ?_
            have hstep := names_step (names := nmI l i) (j := j.toNat) (by omega) hj2
            refine ow_cons (st_callm (hc := fun w hm hφ hfp => checkName_spec w _ b5 _ hφ hfp) (k := fun _ _ => ?_))
            refine ow_ev ev_assign ?_
            refine ow_nil (hK22 _ _ ?_); clear hK22
            refine cw_seq fun K23 hK23 => ?_
            refine cw_region ?_
            refine ow_ev ev_move ?_
            refine ow_ev ev_neq ?_
            refine ow_nil (hK23 _ _ ?_); clear hK23
            refine cw_if rfl (fun hc8 => ?_) (fun hc8 => ?_)  -- t54
            ·
              refine cw_seq fun K24 hK24 => ?_
              refine cw_region ?_
              refine ow_ev ev_move ?_
              refine ow_ev ev_assign ?_
              refine ow_nil (hK24 _ _ ?_); clear hK24
              refine cw_ret (kw_ret1 rfl rfl (fun w hm => ret_of hm (by rw [names_ret hi0 hc6 hfull (by omega) hst0 (hstep.1 hc8) hc8])))
            ·
              refine cw_skip (hK20 _ _ ?_); clear hK20
              refine cw_region ?_
              refine ow_ev ev_add ?_
              refine ow_ev ev_move ?_
              have hz : nameErr ((nmI l i).getD j.toNat ByteArray.empty) ((nmI l i).take j.toNat) = 0 := Decidable.of_not_not hc8
              refine ow_nil (hL2 (j + 1) _ _ (⟨by omega, by omega, by rw [show (j + 1).toNat = j.toNat + 1 by omega]; exact (hstep.2 hz).1⟩) (by omega) ⟨rfl, rfl, rfl, rfl, rfl, rfl, rfl, trivial⟩ (fun w hm => by rw [show (j + 1).toNat = j.toNat + 1 by omega, ← (hstep.2 hz).2]; exact hm))
          ·
            refine cw_exit (hK14 _ _ ?_); clear hK14
            refine cw_region ?_
            refine ow_ev ev_add ?_
            refine ow_ev ev_move ?_
            refine ow_nil (hL1 (i + 1) _ _ (names_next hi0 hc6 hst0 (names_end (by omega) hj2)) (by omega) ⟨rfl, rfl, rfl, trivial⟩ (fun w hm => hm.sub (by repeat (first | exact List.Sublist.refl _ | apply List.Sublist.cons_cons | apply List.Sublist.cons))))
        ·
          refine cw_exit (hK10 _ _ ?_); clear hK10
          refine cw_seq fun K25 hK25 => ?_
          refine cw_region ?_
          refine ow_cons (st_makeMap_set (k := fun b9 => ?_))
          refine ow_ev ev_assign ?_
          refine ow_nil (hK25 _ _ ?_); clear hK25
          refine cw_seq fun K26 hK26 => ?_
          refine cw_seq fun K27 hK27 => ?_
          refine cw_region ?_
          refine ow_ev (ev_field_addr 2) ?_
          refine ow_ev ev_load_own ?_
          refine ow_ev ev_len ?_
          refine ow_ev ev_move ?_
          refine ow_nil (hK27 _ _ ?_); clear hK27
          refine cw_block ?_
          refine cw_loop (γ := Int) (env := fun j => [(1, .v (.pointer (some ⟨b1, 0, none⟩))), (9, .v (.map (some b9))), (60, .v (.slice v.a3 l.sections.length v.c3)), (61, .v (.int .i64 (l.sections.length : Int))), (62, .v (.int .i64 j))]) (mem := fun j => [kset b9 ((l.sections.take j.toNat).map Sec.name), own b1 26 (v.cells l), old w]) (R := fun j => 0 ≤ j ∧ j ≤ l.sections.length ∧ secsErr l.stations.length ((l.sections.take j.toNat).map Sec.name) (l.sections.drop j.toNat) = secsErr l.stations.length [] l.sections) (μ := fun j => (l.sections.length - j).toNat) (0) (⟨by omega, by omega, rfl⟩) ⟨rfl, rfl, rfl, rfl, rfl, trivial⟩ (fun _ h => h) ?_
          intro j hR3 KL3 hL3
          obtain ⟨hj0, hj1, hj2⟩ := hR3
          refine cw_seq fun K28 hK28 => ?_
          refine cw_region ?_
          refine ow_ev ev_lss ?_
          refine ow_nil (hK28 _ _ ?_); clear hK28
          refine cw_seq fun K29 hK29 => ?_
          refine cw_if rfl (fun hc9 => ?_) (fun hc9 => ?_)  -- t63
          ·
            refine cw_skip (hK29 _ _ ?_); clear hK29
            refine cw_seq fun K30 hK30 => ?_
            refine cw_block ?_
            refine cw_seq fun K31 hK31 => ?_
            refine cw_region ?_
            refine ow_ev (ev_index_addr' 5 (fun _ => hl.se.addr (by rw [flat_len (sz := 5) (fun _ => rfl)]; omega))) ?_
            refine ow_ev (ev_load_cells (l := (l.sections.getD j.toNat secD).cells) (fun w hm q u hu => by rw [Nat.add_assoc]; exact cell_old hl.se (sec_get (by omega) hu) (Nat.le_refl _) (by repeat (first | exact Has.head | apply Has.tail)) w hm)) ?_
            refine ow_cons (st_alloc rfl (k := fun b11 => ?_))
            refine ow_cons (st_store_all (k := ?_))
            refine ow_nil (hK31 _ _ ?_); clear hK31
            refine cw_seq fun K32 hK32 => ?_
            refine cw_seq fun K33 hK33 => ?_
            refine cw_region ?_
            refine ow_ev (ev_field_addr 0) ?_
            refine ow_ev ev_load_own ?_
            refine ow_ev ev_move ?_
            have hstep := secs_step (nst := l.stations.length) (xs := l.sections) (j := j.toNat) (by omega) hj2
            refine ow_cons (st_callm (hc := fun w hm hφ hfp => checkName_spec w _ b9 _ hφ hfp) (k := fun _ _ => ?_))
            refine ow_ev ev_assign ?_
            refine ow_nil (hK33 _ _ ?_); clear hK33
            refine cw_seq fun K34 hK34 => ?_
            refine cw_region ?_
            refine ow_ev ev_move ?_
            refine ow_ev ev_neq ?_
            refine ow_nil (hK34 _ _ ?_); clear hK34
            refine cw_if rfl (fun hc10 => ?_) (fun hc10 => ?_)  -- t71
            ·
              refine cw_seq fun K35 hK35 => ?_
              refine cw_region ?_
              refine ow_ev ev_move ?_
              refine ow_ev ev_assign ?_
              refine ow_nil (hK35 _ _ ?_); clear hK35
              refine cw_ret (kw_ret1 rfl rfl (fun w hm => ret_of hm (by rw [secs_ret hfull (by omega) (hst0 (by omega)) (hpt0 (by omega)) (hstep.1 hc10) hc10])))
            ·
              have hz : nameErr (l.sections.getD j.toNat secD).name ((l.sections.take j.toNat).map Sec.name) = 0 := Decidable.of_not_not hc10
              refine cw_skip (hK32 _ _ ?_); clear hK32
              refine cw_seq fun K36 hK36 => ?_
              refine cw_region ?_
              refine ow_ev ev_load_all ?_
              refine ow_ev ev_load_all ?_
              refine ow_cons (st_callv (fun w hm => sectionInRange_spec w v l _) ?_)
              refine ow_ev ev_not ?_
              refine ow_nil (hK36 _ _ ?_); clear hK36
              refine cw_cond rfl (fun hc11 => ?_) (fun hc11 => ?_)  -- t76
              ·
                refine cw_seq fun K37 hK37 => ?_
                refine cw_region ?_
                refine ow_ev ev_assign ?_
                refine ow_nil (hK37 _ _ ?_); clear hK37
                refine cw_ret (kw_ret1 rfl rfl (fun w hm => ret_of hm (by rw [secs_ret hfull (by omega) (hst0 (by omega)) (hpt0 (by omega)) ((hstep.2 hz).2.1 (by simpa using hc11)) (by decide)])))
              ·
                refine cw_skip (hK30 _ _ ?_); clear hK30
                refine cw_region ?_
                refine ow_ev ev_add ?_
                refine ow_ev ev_move ?_
                refine ow_nil (hL3 (j + 1) _ _ (⟨by omega, by omega, by rw [show (j + 1).toNat = j.toNat + 1 by omega]; exact (hstep.2 hz).2.2 (by simpa using hc11)⟩) (by omega) ⟨rfl, rfl, rfl, rfl, rfl, trivial⟩ (fun w hm => by rw [show (j + 1).toNat = j.toNat + 1 by omega, ← (hstep.2 hz).1]; exact hm.sub (by repeat (first | exact List.Sublist.refl _ | apply List.Sublist.cons_cons | apply List.Sublist.cons))))
          ·
            refine cw_exit (hK26 _ _ ?_); clear hK26
            refine cw_seq fun K38 hK38 => ?_
            refine cw_region ?_
            refine ow_ev ev_load_all ?_
            refine ow_cons (st_callv (fun w hm => hck (by omega) w (LayAt.below hl (hm.below (by repeat (first | exact Has.head | apply Has.tail))))) ?_)
            refine ow_ev ev_assign ?_
            refine ow_nil (hK38 _ _ ?_); clear hK38
            refine cw_ret (kw_ret1 rfl rfl (fun w hm => ret_of hm (by rw [links_ret hfull (by omega) (hst0 (by omega)) (hpt0 (by omega)) (secs_end (by omega) hj2)])))

/-- The contract of Check. -/
theorem check_spec (w : World) (v : LayV) (l : Lay) (hl : LayAt 0 w.heap.size w v l) : Calls Tryd.prog 13 #[.agg (v.cells l).toArray] w (Ret w (.int .i64 (checkL l))) :=
  check_of w v l hl fun hb w' hl' => checkLinks_spec w' v l hl' hb

end Go.Proofs.YtohhihdjdelckaaDoor

/- Links. -/
import Derived.Test.YtohhihdjdelckaaDoorLay1
import Derived.Test.YtohhihdjdelckaaDoorEm
set_option linter.all false
namespace Go.Proofs.YtohhihdjdelckaaDoor
open Go.Eng Go.RowKit
set_option maxRecDepth 10000
theorem LayAt.below {w w' : World} {v : LayV} {l : Lay} (h : LayAt 0 w.heap.size w v l) (hb : Below w.heap.size w w') : LayAt 0 w'.heap.size w' v l :=
  ⟨h.st.mono (Nat.le_refl _) hb.size (fun k _ hk => hb.block k hk), h.pt.mono (Nat.le_refl _) hb.size (fun k _ hk => hb.block k hk), h.se.mono (Nat.le_refl _) hb.size (fun k _ hk => hb.block k hk), h.li.mono (Nat.le_refl _) hb.size (fun k _ hk => hb.block k hk)⟩

def atEnd (done : List Lnk) (e : Int) : List Lnk := done.filter (fun k => decide (2 * k.a + k.aEnd = e) || decide (2 * k.b + k.bEnd = e))
def joinB (a ae b be : Int) (k : Lnk) : Bool := (decide (a = k.a ∧ ae = k.aEnd) && decide (b = k.b ∧ be = k.bEnd)) || (decide (a = k.b ∧ ae = k.bEnd) && decide (b = k.a ∧ be = k.aEnd))
def fitsB (k : Lnk) : List Lnk → Bool
  | [] => true
  | [x] => (decide (k.point ≠ -1) && decide (k.point = x.point)) && decide (k.pos ≠ x.pos)
  | _ => false
def linkB (l : Lay) (k : Lnk) : Bool :=
  (((((((decide (0 ≤ k.a) && decide (k.a < (l.sections.length : Int))) && decide (0 ≤ k.b)) && decide (k.b < (l.sections.length : Int))) && (decide (k.aEnd = 0) || decide (k.aEnd = 1))) && (decide (k.bEnd = 0) || decide (k.bEnd = 1))) && decide (-1 ≤ k.point)) && decide (k.point < (l.points.length : Int))) && (decide (k.pos = 0) || (decide (k.pos = 1) && decide (k.point ≠ -1)))
def linksErr (l : Lay) : List Lnk → List Lnk → Int
  | _, [] => 0
  | done, k :: r =>
    if linkB l k = false then 4 else if k.a = k.b ∧ k.aEnd = k.bEnd then 1 else
    if (atEnd done (2 * k.a + k.aEnd)).any (joinB k.a k.aEnd k.b k.bEnd) = true then 5 else
    if fitsB k (atEnd done (2 * k.a + k.aEnd)) = false ∨ fitsB k (atEnd done (2 * k.b + k.bEnd)) = false then 11 else linksErr l (done ++ [k]) r

theorem linkInRange_spec (w : World) (v : LayV) (l : Lay) (k : Lnk) : Calls Tryd.prog 62 #[.agg (v.cells l).toArray, .agg k.cells.toArray] w (Ret w (.bool (linkB l k))) := by
  refine calls_cw (args := [_, _]) Tryd.func62 rfl (Mem.start w) rfl ?_
  refine cw_seq fun K1 hK1 => ?_
  refine cw_region ?_
  refine ow_cons (st_box (k := fun b2 => ?_))
  refine ow_cons (st_box (k := fun b3 => ?_))
  refine ow_ev ev_assign ?_
  refine ow_nil (hK1 _ _ ?_); clear hK1
  refine cw_seq fun K2 hK2 => ?_
  refine cw_region ?_
  refine ow_ev (ev_field_addr 0) ?_
  refine ow_ev ev_load_own ?_
  refine ow_ev ev_geq ?_
  refine ow_ev ev_move ?_
  refine ow_evg rfl (ev_field_addr 0) ?_
  refine ow_evg rfl ev_load_own ?_
  refine ow_evg rfl (ev_field_addr 2) ?_
  refine ow_evg rfl ev_load_own ?_
  refine ow_evg rfl ev_len ?_
  refine ow_evg rfl ev_lss ?_
  refine ow_ev ev_and ?_
  refine ow_ev ev_move ?_
  refine ow_evg rfl (ev_field_addr 2) ?_
  refine ow_evg rfl ev_load_own ?_
  refine ow_evg rfl ev_geq ?_
  refine ow_ev ev_and ?_
  refine ow_ev ev_move ?_
  refine ow_evg rfl (ev_field_addr 2) ?_
  refine ow_evg rfl ev_load_own ?_
  refine ow_evg rfl (ev_field_addr 2) ?_
  refine ow_evg rfl ev_load_own ?_
  refine ow_evg rfl ev_len ?_
  refine ow_evg rfl ev_lss ?_
  refine ow_ev ev_and ?_
  refine ow_ev ev_move ?_
  refine ow_evg rfl (ev_field_addr 1) ?_
  refine ow_evg rfl ev_load_own ?_
  refine ow_evg rfl ev_eql ?_
  refine ow_evg rfl ev_move ?_
  refine ow_evg rfl (ev_field_addr 1) ?_
  refine ow_evg rfl ev_load_own ?_
  refine ow_evg rfl ev_eql ?_
  refine ow_evg rfl ev_or ?_
  refine ow_ev ev_and ?_
  refine ow_ev ev_move ?_
  refine ow_evg rfl (ev_field_addr 3) ?_
  refine ow_evg rfl ev_load_own ?_
  refine ow_evg rfl ev_eql ?_
  refine ow_evg rfl ev_move ?_
  refine ow_evg rfl (ev_field_addr 3) ?_
  refine ow_evg rfl ev_load_own ?_
  refine ow_evg rfl ev_eql ?_
  refine ow_evg rfl ev_or ?_
  refine ow_ev ev_and ?_
  refine ow_ev ev_move ?_
  refine ow_evg rfl (ev_field_addr 4) ?_
  refine ow_evg rfl ev_load_own ?_
  refine ow_evg rfl ev_geq ?_
  refine ow_ev ev_and ?_
  refine ow_ev ev_move ?_
  refine ow_evg rfl (ev_field_addr 4) ?_
  refine ow_evg rfl ev_load_own ?_
  refine ow_evg rfl (ev_field_addr 1) ?_
  refine ow_evg rfl ev_load_own ?_
  refine ow_evg rfl ev_len ?_
  refine ow_evg rfl ev_lss ?_
  refine ow_ev ev_and ?_
  refine ow_ev ev_move ?_
  refine ow_evg rfl (ev_field_addr 5) ?_
  refine ow_evg rfl ev_load_own ?_
  refine ow_evg rfl ev_eql ?_
  refine ow_evg rfl ev_move ?_
  refine ow_evg rfl (ev_field_addr 5) ?_
  refine ow_evg rfl ev_load_own ?_
  refine ow_evg rfl ev_eql ?_
  refine ow_evg rfl ev_move ?_
  refine ow_evg rfl (ev_field_addr 4) ?_
  refine ow_evg rfl ev_load_own ?_
  refine ow_evg rfl ev_neq ?_
  refine ow_evg rfl ev_and ?_
  refine ow_evg rfl ev_or ?_
  refine ow_ev ev_and ?_
  refine ow_ev ev_assign ?_
  refine ow_nil (hK2 _ _ ?_); clear hK2
  refine cw_ret (kw_ret1 rfl rfl (fun w hm => ret_of hm rfl))

theorem ends_spec (w : World) (k : Lnk) : Calls Tryd.prog 42 #[.agg k.cells.toArray] w (Ret w (.tuple #[.agg #[.int .i64 k.a, .int .i64 k.aEnd], .agg #[.int .i64 k.b, .int .i64 k.bEnd]])) := by
  refine calls_cw (args := [_]) Tryd.func42 rfl (Mem.start w) rfl ?_
  refine cw_seq fun K1 hK1 => ?_
  refine cw_region ?_
  refine ow_cons (st_box (k := fun b1 => ?_))
  refine ow_cons (st_alloc rfl (k := fun b2 => ?_))
  refine ow_cons (st_alloc rfl (k := fun b3 => ?_))
  refine ow_nil (hK1 _ _ ?_); clear hK1
  refine cw_seq fun K2 hK2 => ?_
  refine cw_region_any [own b1 72 k.cells, old w] (by repeat (first | exact List.Sublist.refl _ | apply List.Sublist.cons_cons | apply List.Sublist.cons)) ?_
  refine aw_ev 0 rfl (ev_field_addr 0) ?_
  refine aw_ev 1 rfl ev_load_own ?_
  refine aw_ev 2 rfl (ev_field_addr 1) ?_
  refine aw_ev 3 rfl ev_load_own ?_
  refine aw_ev 4 rfl ev_build2 ?_
  refine aw_ev 5 rfl (ev_field_addr 2) ?_
  refine aw_ev 6 rfl ev_load_own ?_
  refine aw_ev 7 rfl (ev_field_addr 3) ?_
  refine aw_ev 8 rfl ev_load_own ?_
  refine aw_ev 9 rfl ev_build2 ?_
  refine aw_one 10 rfl (st_store_all (k := ⟨fun w hm => hm.sub (by repeat (first | exact List.Sublist.refl _ | apply List.Sublist.cons_cons | apply List.Sublist.cons)), ?_⟩))
  refine aw_one 11 rfl (st_store_all (k := ⟨fun w hm => hm.sub (by repeat (first | exact List.Sublist.refl _ | apply List.Sublist.cons_cons | apply List.Sublist.cons)), ?_⟩))
  refine aw_done (hK2 _ _ ?_); clear hK2
  refine cw_ret (kw_retc2 (fun w hm => ret_of hm rfl))

theorem endIndex_spec (w : World) (s d : Int) (hs : 0 ≤ s ∧ s ≤ 1000000) (hd : 0 ≤ d ∧ d ≤ 1000000) : Calls Tryd.prog 63 #[.agg #[.int .i64 s, .int .i64 d]] w (Ret w (.int .i64 (2 * s + d))) := by
  refine calls_cw (args := [_]) Tryd.func63 rfl (Mem.start w) rfl ?_
  refine cw_seq fun K1 hK1 => ?_
  refine cw_region ?_
  refine ow_cons (st_box (k := fun b1 => ?_))
  refine ow_ev ev_assign ?_
  refine ow_nil (hK1 _ _ ?_); clear hK1
  refine cw_seq fun K2 hK2 => ?_
  refine cw_region ?_
  refine ow_ev (ev_field_addr 0) ?_
  refine ow_ev ev_load_own ?_
  refine ow_ev ev_mul ?_
  refine ow_ev (ev_field_addr 1) ?_
  refine ow_ev ev_load_own ?_
  refine ow_ev ev_add ?_
  refine ow_ev ev_assign ?_
  refine ow_nil (hK2 _ _ ?_); clear hK2
  refine cw_ret (kw_ret1 rfl rfl (fun w hm => ret_of hm rfl))

def lnkD : Lnk := ⟨0, 0, 0, 0, 0, 0⟩
theorem flat_get6 : ∀ (xs : List Lnk) (i j : Nat), j < 6 → (xs.flatMap Lnk.cells)[i * 6 + j]? = (xs[i]?).bind (fun x => (Lnk.cells x)[j]?)
  | [], i, j, _ => by simp
  | x :: xs, 0, j, hj => by
    simp only [List.flatMap_cons, Nat.zero_mul, Nat.zero_add]
    rw [List.getElem?_append_left (by show j < 6; exact hj)]
    rfl
  | x :: xs, i + 1, j, hj => by
    simp only [List.flatMap_cons]
    have h6 : (Lnk.cells x).length = 6 := rfl
    rw [List.getElem?_append_right (by rw [h6, Nat.add_mul]; omega), h6]
    rw [show (i + 1) * 6 + j - 6 = i * 6 + j by rw [Nat.add_mul]; omega]
    rw [flat_get6 xs i j hj]
    simp
theorem lnk_get {xs : List Lnk} {i j : Nat} {u : Value} (hi : i < xs.length) (hj : (Lnk.cells (xs.getD i lnkD))[j]? = some u) : (xs.flatMap Lnk.cells)[i * 6 + j]? = some u := by
  have hjl : j < 6 := by have := (List.getElem?_eq_some_iff.1 hj).1; simpa [Lnk.cells] using this
  rw [flat_get6 xs i j hjl]
  have : xs[i]? = some (xs.getD i lnkD) := by simp [hi]
  rw [this]
  exact hj
theorem lnk_len (xs : List Lnk) : (xs.flatMap Lnk.cells).length = xs.length * 6 := by
  induction xs with
  | nil => simp
  | cons x xs ih => simp only [List.flatMap_cons, List.length_append, ih, List.length_cons, Nat.add_mul]; simp [Lnk.cells]; omega

theorem any_yes {ks : List Lnk} {p : Lnk → Bool} {i : Nat} (hi : i < ks.length) (h : p (ks.getD i lnkD) = true) : ks.any p = true := by
  rw [List.any_eq_true]
  exact ⟨ks[i], List.getElem_mem hi, by simpa [List.getD_eq_getElem?_getD, hi] using h⟩
theorem any_no {ks : List Lnk} {p : Lnk → Bool} {i : Nat} (hi : ks.length ≤ i) (h : ∀ j, j < i → p (ks.getD j lnkD) = false) : ks.any p = false := by
  rw [List.any_eq_false]
  intro x hx
  obtain ⟨j, hj, rfl⟩ := List.mem_iff_getElem.1 hx
  have := h j (by omega)
  simpa [List.getD_eq_getElem?_getD, hj] using this

theorem joined_spec (w : World) (a : Option Addr) (cap : Nat) (ks : List Lnk) (x xe y ye : Int) (hs : Sl 0 w.heap.size w a (ks.flatMap Lnk.cells)) (hlen : ks.length ≤ 1000000) :
    Calls Tryd.prog 64 #[.slice a ks.length cap, .agg #[.int .i64 x, .int .i64 xe], .agg #[.int .i64 y, .int .i64 ye]] w (Ret w (.bool (ks.any (joinB x xe y ye)))) := by
  refine calls_cw (args := [_, _, _]) Tryd.func64 rfl (Mem.start w) rfl ?_
  refine cw_seq fun K1 hK1 => ?_
  refine cw_region ?_
  refine ow_cons (st_box (k := fun b4 => ?_))
  refine ow_cons (st_box (k := fun b5 => ?_))
  refine ow_ev ev_assign ?_
  refine ow_nil (hK1 _ _ ?_); clear hK1
  refine cw_seq fun K2 hK2 => ?_
  refine cw_seq fun K3 hK3 => ?_
  refine cw_region ?_
  refine ow_ev ev_move ?_
  refine ow_ev ev_len ?_
  refine ow_ev ev_move ?_
  refine ow_nil (hK3 _ _ ?_); clear hK3
  refine cw_block ?_
  refine cw_loop (γ := Int) (env := fun i => [(4, .v (.pointer (some ⟨b4, 0, none⟩))), (5, .v (.pointer (some ⟨b5, 0, none⟩))), (11, .v (.slice a ks.length cap)), (12, .v (.int .i64 (ks.length : Int))), (13, .v (.int .i64 i))]) (mem := fun i => [own b5 85 [.int .i64 y, .int .i64 ye], own b4 85 [.int .i64 x, .int .i64 xe], old w]) (R := fun i => 0 ≤ i ∧ i ≤ ks.length ∧ ∀ j, j < i.toNat → joinB x xe y ye (ks.getD j lnkD) = false) (μ := fun i => (ks.length - i).toNat) (0) (⟨by omega, by omega, fun j hj => by simp at hj⟩) ⟨rfl, rfl, rfl, rfl, rfl, trivial⟩ (fun _ h => h) ?_
  intro i hR1 KL1 hL1
  obtain ⟨hi0, hi1, hall⟩ := hR1
  refine cw_seq fun K4 hK4 => ?_
  refine cw_region ?_
  refine ow_ev ev_lss ?_
  refine ow_nil (hK4 _ _ ?_); clear hK4
  refine cw_seq fun K5 hK5 => ?_
  refine cw_if rfl (fun hc1 => ?_) (fun hc1 => ?_)  -- t14
  ·
    refine cw_skip (hK5 _ _ ?_); clear hK5
    refine cw_seq fun K6 hK6 => ?_
    refine cw_block ?_
    refine cw_seq fun K7 hK7 => ?_
    refine cw_region ?_
    refine ow_ev (ev_index_addr' 6 (fun _ => hs.addr (by rw [lnk_len]; omega))) ?_
    refine ow_ev (ev_load_cells (l := (ks.getD i.toNat lnkD).cells) (fun w hm q u hu => by rw [Nat.add_assoc]; exact cell_old hs (lnk_get (by omega) hu) (Nat.le_refl _) (by repeat (first | exact Has.head | apply Has.tail)) w hm)) ?_
    refine ow_cons (st_alloc rfl (k := fun b8 => ?_))
    refine ow_cons (st_store_all (k := ?_))
    refine ow_nil (hK7 _ _ ?_); clear hK7
    refine cw_seq fun K8 hK8 => ?_
    refine cw_region ?_
    refine ow_ev ev_load_all ?_
    refine ow_cons (st_callv (fun w hm => ends_spec w _) ?_)
    refine ow_ev ev_move ?_
    refine ow_ev ev_extract ?_
    refine ow_ev ev_extract ?_
    refine ow_cons (st_alloc rfl (k := fun b9 => ?_))
    refine ow_cons (st_alloc rfl (k := fun b10 => ?_))
    refine ow_cons (st_store_all (k := ?_))
    refine ow_cons (st_store_all (k := ?_))
    refine ow_nil (hK8 _ _ ?_); clear hK8
    refine cw_seq fun K9 hK9 => ?_
    refine cw_region ?_
    refine ow_ev ev_load_all ?_
    refine ow_ev ev_load_all ?_
    refine ow_ev ev_struct_eql ?_
    refine ow_ev ev_move ?_
    refine ow_evg rfl ev_load_all ?_
    refine ow_evg rfl ev_load_all ?_
    refine ow_evg rfl ev_struct_eql ?_
    refine ow_ev ev_and ?_
    refine ow_ev ev_move ?_
    refine ow_evg rfl ev_load_all ?_
    refine ow_evg rfl ev_load_all ?_
    refine ow_evg rfl ev_struct_eql ?_
    refine ow_evg rfl ev_move ?_
    refine ow_evg rfl ev_load_all ?_
    refine ow_evg rfl ev_load_all ?_
    refine ow_evg rfl ev_struct_eql ?_
    refine ow_evg rfl ev_and ?_
    refine ow_ev ev_or ?_
    refine ow_nil (hK9 _ _ ?_); clear hK9
    refine cw_cond rfl (fun hc2 => ?_) (fun hc2 => ?_)  -- t39
    ·
      refine cw_seq fun K10 hK10 => ?_
      refine cw_region ?_
      refine ow_ev ev_assign ?_
      refine ow_nil (hK10 _ _ ?_); clear hK10
      refine cw_ret (kw_ret1 rfl rfl (fun w hm => ret_of hm (congrArg Value.bool (any_yes (by omega) hc2).symm)))
    ·
      refine cw_skip (hK6 _ _ ?_); clear hK6
      refine cw_region ?_
      refine ow_ev ev_add ?_
      refine ow_ev ev_move ?_
      refine ow_nil (hL1 (i + 1) _ _ (⟨by omega, by omega, fun j hj => ?_⟩) (by omega) ⟨rfl, rfl, rfl, rfl, rfl, trivial⟩ (fun w hm => hm.sub (by repeat (first | exact List.Sublist.refl _ | apply List.Sublist.cons_cons | apply List.Sublist.cons))))
      by_cases hji : j < i.toNat
      · exact hall j hji
      · obtain rfl : j = i.toNat := by omega
        exact hc2
  ·
    refine cw_exit (hK2 _ _ ?_); clear hK2
    refine cw_seq fun K11 hK11 => ?_
    refine cw_region ?_
    refine ow_ev ev_assign ?_
    refine ow_nil (hK11 _ _ ?_); clear hK11
    refine cw_ret (kw_ret1 rfl rfl (fun w hm => ret_of hm (congrArg Value.bool (any_no (i := i.toNat) (by omega) hall).symm)))

theorem fits_eq {k : Lnk} {ks : List Lnk} (h : ¬ (ks.length : Int) = 0) : fitsB k ks = (((decide ((ks.length : Int) = 1) && decide (k.point ≠ -1)) && decide (k.point = (ks.getD 0 lnkD).point)) && decide (k.pos ≠ (ks.getD 0 lnkD).pos)) := by
  match ks, h with
  | [], h => simp at h
  | [x], _ => simp [fitsB]
  | x :: y :: r, _ => simp [fitsB]; omega

theorem fits_spec (w : World) (k : Lnk) (a : Option Addr) (cap : Nat) (ks : List Lnk) (hs : Sl 0 w.heap.size w a (ks.flatMap Lnk.cells)) :
    Calls Tryd.prog 65 #[.agg k.cells.toArray, .slice a ks.length cap] w (Ret w (.bool (fitsB k ks))) := by
  refine calls_cw (args := [_, _]) Tryd.func65 rfl (Mem.start w) rfl ?_
  refine cw_seq fun K1 hK1 => ?_
  refine cw_region ?_
  refine ow_cons (st_box (k := fun b2 => ?_))
  refine ow_ev ev_assign ?_
  refine ow_nil (hK1 _ _ ?_); clear hK1
  refine cw_seq fun K2 hK2 => ?_
  refine cw_seq fun K3 hK3 => ?_
  refine cw_region ?_
  refine ow_ev ev_move ?_
  refine ow_ev ev_len ?_
  refine ow_ev ev_eql ?_
  refine ow_nil (hK3 _ _ ?_); clear hK3
  refine cw_if rfl (fun hc1 => ?_) (fun hc1 => ?_)  -- t7
  ·
    refine cw_seq fun K4 hK4 => ?_
    refine cw_region ?_
    refine ow_ev ev_assign ?_
    refine ow_nil (hK4 _ _ ?_); clear hK4
    refine cw_ret (kw_ret1 rfl rfl (fun w hm => ret_of hm (by rw [show ks = [] from List.length_eq_zero_iff.1 (by omega)]; rfl)))
  ·
    refine cw_skip (hK2 _ _ ?_); clear hK2
    refine cw_seq fun K5 hK5 => ?_
    refine cw_region_any [own b2 72 k.cells, old w] (by repeat (first | exact List.Sublist.refl _ | apply List.Sublist.cons_cons | apply List.Sublist.cons)) ?_
    refine aw_ev 0 rfl ev_move ?_
    refine aw_ev 1 rfl ev_len ?_
    refine aw_ev 2 rfl ev_eql ?_
    refine aw_ev 3 rfl ev_move ?_
    refine aw_evg 4 rfl rfl (ev_field_addr 4) ?_
    refine aw_evg 5 rfl rfl ev_load_own ?_
    refine aw_evg 6 rfl rfl ev_neq ?_
    refine aw_ev 7 rfl ev_and ?_
    refine aw_ev 8 rfl ev_move ?_
    refine aw_evg 9 rfl rfl (ev_field_addr 4) ?_
    refine aw_evg 10 rfl rfl ev_load_own ?_
    refine aw_evg 11 rfl rfl ev_move ?_
    refine aw_evg 12 rfl rfl (ev_index_addr' 6 (fun hg => hs.addr (by rw [lnk_len]; simp at hg; omega))) ?_
    refine aw_evg 13 rfl rfl (ev_field_addr 4) ?_
    refine aw_evg 14 rfl rfl (ev_load_cell (v := .int .i64 (ks.getD 0 lnkD).point) (by first | exact .plain rfl | exact .cond rfl id) (by kernel_rfl) (fun hg w hm => cell_old (j := 0 * 6 + 4) hs (lnk_get (j := 4) (by simp at hg; omega) rfl) (Nat.le_refl _) (by repeat (first | exact Has.head | apply Has.tail)) w hm)) ?_
    refine aw_evg 15 rfl rfl ev_eql ?_
    refine aw_ev 16 rfl ev_and ?_
    refine aw_ev 17 rfl ev_move ?_
    refine aw_evg 18 rfl rfl (ev_field_addr 5) ?_
    refine aw_evg 19 rfl rfl ev_load_own ?_
    refine aw_evg 20 rfl rfl ev_move ?_
    refine aw_evg 21 rfl rfl (ev_index_addr' 6 (fun hg => hs.addr (by rw [lnk_len]; simp at hg; omega))) ?_
    refine aw_evg 22 rfl rfl (ev_field_addr 5) ?_
    refine aw_evg 23 rfl rfl (ev_load_cell (v := .int .i64 (ks.getD 0 lnkD).pos) (by first | exact .plain rfl | exact .cond rfl id) (by kernel_rfl) (fun hg w hm => cell_old (j := 0 * 6 + 5) hs (lnk_get (j := 5) (by simp at hg; omega) rfl) (Nat.le_refl _) (by repeat (first | exact Has.head | apply Has.tail)) w hm)) ?_
    refine aw_evg 24 rfl rfl ev_neq ?_
    refine aw_ev 25 rfl ev_and ?_
    refine aw_ev 26 rfl ev_assign ?_
    refine aw_done (hK5 _ _ ?_); clear hK5
    refine cw_ret (kw_ret1 rfl rfl (fun w hm => ret_of hm (by rw [fits_eq hc1])))

end Go.Proofs.YtohhihdjdelckaaDoor

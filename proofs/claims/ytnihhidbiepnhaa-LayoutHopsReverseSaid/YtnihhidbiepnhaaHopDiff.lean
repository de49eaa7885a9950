/- The walk of LayoutHopsDiffer. -/
import Derived.Test.YtnihhidbiepnhaaHopLaw
namespace Go.Eng
open Go.RowKit
section
variable {P : Program} {n : Nat} {w0 : World} {ρ : Env} {H : List Chunk} {g : Bool}
theorem ev_load_cellsg {x : Operand} {t m b o : Nat} {l : List Value} (hc : g = true → ∀ w, Mem w0 H w → ∀ j v, l[j]? = some v → w.cell? ⟨b, o + j, none⟩ = some v)
    (hx : Gets ρ g x (.pointer (some ⟨b, o, none⟩)) := by first | exact .plain rfl | exact .cond rfl id | exact .cond rfl gl) (ht : aggT P t = some m := by kernel_rfl) (hl : l.length = m := by rfl) : Ev P n w0 H ρ g (.load t x) (.agg l.toArray) :=
  ev_load_agg hx ht hl fun hg w hm j v hv => by
    have := hc hg w hm j v hv
    by_cases h0 : j = 0
    · subst h0; exact this
    · simp only [Addr.add, h0, if_false]; exact this
theorem ev_load_atg {x : Operand} {t : TypeId} {p : Addr} {v : Value} (hc : g = true → ∀ w, Mem w0 H w → w.cell? p = some v)
    (hx : Gets ρ g x (.pointer (some p)) := by first | exact .plain rfl | exact .cond rfl id | exact .cond rfl gl) (ht : oneT P t = true := by kernel_rfl) : Ev P n w0 H ρ g (.load t x) v := ev_load_cell hx ht hc
theorem ret_of0 {w : World} {v v' : Value} (hm : Mem w0 H w) (hv : v = v') (h : Has H (oldBut w0 (many []).fp) := by repeat (first | exact Has.head | apply Has.tail)) : Ret w0 v' (.returned v) w :=
  ret_of (H := [old w0]) ⟨hm.os, hm.tape, hm.output, hm.size, fun c hc => by obtain rfl := List.mem_singleton.1 hc; exact ⟨fun k hk => h.φ hm k hk (many_nil_fp k), fun k hk => Nat.lt_of_lt_of_le hk hm.size⟩, List.pairwise_singleton _ _⟩ hv .head
end
end Go.Eng
namespace Go.Proofs.Ytnihhidbiepnhaa
open Go.Eng Go.RowKit
set_option maxRecDepth 10000
def hopD : Hop := ⟨0, 0, 0, 0⟩
theorem hop_get {xs : List Hop} {i j : Nat} {u : Value} (hi : i < xs.length) (hj : (Hop.cells (xs.getD i hopD))[j]? = some u) : (xs.flatMap Hop.cells)[i * 4 + j]? = some u := by
  have hjl : j < 4 := (List.getElem?_eq_some_iff.1 hj).1
  rw [flat_get (enc := Hop.cells) (sz := 4) (fun _ => rfl) xs i j hjl]
  rw [show xs[i]? = some (xs.getD i hopD) by simp [hi]]
  exact hj
theorem lay_at {w0 w : World} {H : List Chunk} {v : LayV} {l : Lay} (hm : Mem w0 H w) (h1 : Has H (row 9 1 v.a1 l.stations.length v.c1 (strCells l.stations))) (h2 : Has H (row 9 1 v.a2 l.points.length v.c2 (strCells l.points)))
    (h3 : Has H (row 31 5 v.a3 l.sections.length v.c3 (l.sections.flatMap Sec.cells))) (h4 : Has H (row 91 6 v.a4 l.links.length v.c4 (l.links.flatMap Lnk.cells))) : LayAt 0 w.heap.size w v l :=
  ⟨sl_row hm h1, sl_row hm h2, sl_row hm h3, sl_row hm h4⟩
theorem secLoop_le (more : Int) (c : UInt8) (i : Nat) (st : Int) (x : Src) (s : Src) (se : List Sec) (t : List Int) : (secLoop more c i st (1 + x.val 2).toNat s se t).2.1.length ≤ se.length + 2 := by
  have := x.val_range (m := 2) (by omega)
  rw [(secLoop_len more c i st _ s se t).1]
  omega
theorem stat_le (x : RowS) : ∀ i, (statN x i).l.sections.length ≤ x.l.sections.length + 2 * i
  | 0 => Nat.le_refl _
  | i + 1 => by
    have := stat_le x i
    have h2 := secLoop_le 2 84 i i (statN x i).s (statN x i).s.next (statN x i).l.sections []
    show (statStep (statN x i) i).l.sections.length ≤ _
    simp only [statStep]
    omega
theorem mid_le (x : RowS) : ∀ i, (midN x i).l.sections.length ≤ x.l.sections.length + 2 * i
  | 0 => Nat.le_refl _
  | i + 1 => by
    have := mid_le x i
    have h2 := secLoop_le 0 76 i (-1) (midN x i).s (midN x i).s.next (midN x i).l.sections []
    show (midStep (midN x i) i).l.sections.length ≤ _
    simp only [midStep]
    omega
theorem layM_le (a : Option Addr) (cap : Nat) (zs : List Int) : (layM a cap zs).sections.length ≤ 100 := by
  have hv := (⟨a, cap, zs, 0⟩ : Src).val_range (m := 2) (by omega)
  unfold layM rowM
  have h1 := mid_le (statN ⟨(⟨a, cap, zs, 0⟩ : Src).next, ⟨[], [], [], []⟩, [], []⟩ (2 + (⟨a, cap, zs, 0⟩ : Src).val 2).toNat) ((2 + (⟨a, cap, zs, 0⟩ : Src).val 2).toNat - 1)
  have h2 := stat_le ⟨(⟨a, cap, zs, 0⟩ : Src).next, ⟨[], [], [], []⟩, [], []⟩ (2 + (⟨a, cap, zs, 0⟩ : Src).val 2).toNat
  dsimp only at h2
  have h3 : ([] : List Sec).length = 0 := rfl
  omega

theorem differ_two {x y : Hop} (h1 : ¬ (x.to = y.to ∧ x.dir = y.dir)) (h2 : x.point = y.point) (h3 : 0 ≤ x.point) (h4 : x.pos ≠ y.pos) : Value.bool (true && (decide (((2 : Nat) : Int) < 2) || (((!decide (x.to = y.to ∧ x.dir = y.dir)) && decide (x.point = y.point)) && decide (0 ≤ x.point)) && decide (x.pos ≠ y.pos))) = .bool true := by
  rw [decide_eq_false h1, decide_eq_true h2, decide_eq_true h3, decide_eq_true h4]
  rfl
theorem ints_take {k : IntKind} {w : World} {a : Option Addr} {len cap : Nat} {zs : List Int} (h : IntsIn k w a len cap zs) : (zs.take len).length = len ∧ Sl 0 w.heap.size w a ((zs.take len).map (.int k)) ∧ len ≤ 9223372036854775807 := by
  obtain ⟨h1, h2, h3, h4, _⟩ := h
  refine ⟨by rw [List.length_take]; omega, fun j v hv => h1 j v ?_, ?_⟩
  · rw [List.map_take] at hv
    have hlt := (List.getElem?_eq_some_iff.1 hv).1
    rw [List.length_take] at hlt
    rw [List.getElem?_take_of_lt (by omega)] at hv
    exact hv
  · simp only [maxLen] at h3; omega
theorem differ_walk (w : World) (a : Option Addr) (cap : Nat) (zs : List Int) (v : Int) (hz : zs.length ≤ 9223372036854775807) (hsl : Sl 0 w.heap.size w a (zs.map (.int .i64))) :
    Calls Try.prog 4 #[.slice a zs.length cap, .int .i64 v] w (Ret w (.bool true)) := by
  have hN := layM_le a cap zs
  refine calls_cw (args := [_, _]) Try.func4 rfl (Mem.start_many [] (many_nil_φ w) (fun k hk => absurd hk (many_nil_fp k))) rfl ?_
  refine cw_seq fun K1 hK1 => ?_
  refine cw_region ?_
  refine ow_ev ev_assign ?_
  refine ow_nil (hK1 _ _ ?_); clear hK1
  refine cw_seq fun K2 hK2 => ?_
  refine cw_region ?_
  refine ow_ev ev_move ?_
  refine ow_cons (st_callM (cs := []) (fun w' hm hφ hb => layout_spec w' a cap zs hz (sl_oldBut hsl (fun _ => many_nil_fp _) hm (by repeat (first | exact Has.head | apply Has.tail)))) (k := fun r _ => ?_))
  refine ow_cons (st_alloc rfl (k := fun b5 => ?_))
  refine ow_cons (st_store_all (vs := r.cells (layM a cap zs)) (k := ?_))
  refine ow_nil (hK2 _ _ ?_); clear hK2
  refine cw_seq fun K3 hK3 => ?_
  unfold layChunks
  generalize layM a cap zs = l at hN ⊢
  dsimp only [List.cons_append, List.nil_append]
  refine cw_region_any [own b5 28 (r.cells l), row 9 1 r.a1 l.stations.length r.c1 (strCells l.stations), row 9 1 r.a2 l.points.length r.c2 (strCells l.points), row 31 5 r.a3 l.sections.length r.c3 (l.sections.flatMap Sec.cells), row 91 6 r.a4 l.links.length r.c4 (l.links.flatMap Lnk.cells), oldBut w (many []).fp] (by repeat (first | exact List.Sublist.refl _ | apply List.Sublist.cons_cons | apply List.Sublist.cons)) ?_
  refine aw_ev 0 rfl ev_load_all ?_
  refine aw_ev 1 rfl ev_load_all ?_
  refine aw_ev 2 rfl ev_move ?_
  refine aw_one 3 rfl (st_callv (fun w hm => step_spec w r l v (by omega)) ⟨fun w hm => hm.sub (by repeat (first | exact List.Sublist.refl _ | apply List.Sublist.cons_cons | apply List.Sublist.cons)), ?_⟩)
  refine aw_one 4 rfl (st_callM (cs := []) (fun w' hm hφ hb => hops_spec w' r l (stepM l.sections.length v).1 (stepM l.sections.length v).2 (lay_at hm (by repeat (first | exact Has.head | apply Has.tail)) (by repeat (first | exact Has.head | apply Has.tail)) (by repeat (first | exact Has.head | apply Has.tail)) (by repeat (first | exact Has.head | apply Has.tail)))) (k := fun q _ => ⟨fun w hm => hm.reord, ?_⟩))
  refine aw_ev 5 rfl ev_assign ?_
  refine aw_done (hK3 _ _ ?_); clear hK3
  refine cw_seq fun K4 hK4 => ?_
  have hcs := hopsL_cases l (stepM l.sections.length v).1 (stepM l.sections.length v).2
  generalize hopsL l (stepM l.sections.length v).1 (stepM l.sections.length v).2 = xs at hcs ⊢
  refine cw_region_any [row 43 4 q.1 xs.length q.2 (xs.flatMap Hop.cells), oldBut w (many []).fp] (by repeat (first | exact List.Sublist.refl _ | apply List.Sublist.cons_cons | apply List.Sublist.cons)) ?_
  refine aw_one 0 rfl (st_callv (fun w hm => awake4_spec w) ⟨fun w hm => hm.sub (by repeat (first | exact List.Sublist.refl _ | apply List.Sublist.cons_cons | apply List.Sublist.cons)), ?_⟩)
  refine aw_ev 1 rfl ev_move ?_
  refine aw_evg 2 rfl rfl ev_move ?_
  refine aw_evg 3 rfl rfl ev_len ?_
  refine aw_evg 4 rfl rfl ev_lss ?_
  refine aw_evg 5 rfl rfl ev_move ?_
  refine aw_evg 6 rfl rfl ev_move ?_
  refine aw_evg 7 rfl rfl (ev_index_row 4) ?_
  refine aw_evg 8 rfl rfl (ev_field_addr 0) ?_
  refine aw_evg 9 rfl rfl (ev_load_cellsg (l := [.int .i64 (xs.getD 0 hopD).to, .int .i64 (xs.getD 0 hopD).dir]) (fun hg w hm j u hu => by have hj : (Hop.cells (xs.getD 0 hopD))[j]? = some u := (by have h2 : j < 2 := (List.getElem?_eq_some_iff.1 hu).1; have h3 : j = 0 ∨ j = 1 := (by omega); rcases h3 with rfl | rfl <;> exact hu); have := cell_row (H := _) (e := 43) (sz := 4) (a := q.1) (m := xs.length) (cap := q.2) (j := 0 * 4 + j) (hop_get (by simp at hg; omega) hj) (by repeat (first | exact Has.head | apply Has.tail)) w hm; rw [← Nat.add_assoc] at this; exact this)) ?_
  refine aw_evg 10 rfl rfl ev_move ?_
  refine aw_evg 11 rfl rfl (ev_index_row 4) ?_
  refine aw_evg 12 rfl rfl (ev_field_addr 0) ?_
  refine aw_evg 13 rfl rfl (ev_load_cellsg (l := [.int .i64 (xs.getD 1 hopD).to, .int .i64 (xs.getD 1 hopD).dir]) (fun hg w hm j u hu => by have hj : (Hop.cells (xs.getD 1 hopD))[j]? = some u := (by have h2 : j < 2 := (List.getElem?_eq_some_iff.1 hu).1; have h3 : j = 0 ∨ j = 1 := (by omega); rcases h3 with rfl | rfl <;> exact hu); have := cell_row (H := _) (e := 43) (sz := 4) (a := q.1) (m := xs.length) (cap := q.2) (j := 1 * 4 + j) (hop_get (by simp at hg; omega) hj) (by repeat (first | exact Has.head | apply Has.tail)) w hm; rw [← Nat.add_assoc] at this; exact this)) ?_
  refine aw_evg 14 rfl rfl ev_struct_neq ?_
  refine aw_evg 15 rfl rfl ev_move ?_
  refine aw_evg 16 rfl rfl ev_move ?_
  refine aw_evg 17 rfl rfl (ev_index_row 4) ?_
  refine aw_evg 18 rfl rfl (ev_field_addr 2) ?_
  refine aw_evg 19 rfl rfl (ev_load_atg (v := .int .i64 (xs.getD 0 hopD).point) (fun hg => cell_row (e := 43) (sz := 4) (m := xs.length) (cap := q.2) (j := 0 * 4 + 2) (hop_get (by simp at hg; omega) rfl) (by repeat (first | exact Has.head | apply Has.tail)))) ?_
  refine aw_evg 20 rfl rfl ev_move ?_
  refine aw_evg 21 rfl rfl (ev_index_row 4) ?_
  refine aw_evg 22 rfl rfl (ev_field_addr 2) ?_
  refine aw_evg 23 rfl rfl (ev_load_atg (v := .int .i64 (xs.getD 1 hopD).point) (fun hg => cell_row (e := 43) (sz := 4) (m := xs.length) (cap := q.2) (j := 1 * 4 + 2) (hop_get (by simp at hg; omega) rfl) (by repeat (first | exact Has.head | apply Has.tail)))) ?_
  refine aw_evg 24 rfl rfl ev_eql ?_
  refine aw_evg 25 rfl rfl ev_and ?_
  refine aw_evg 26 rfl rfl ev_move ?_
  refine aw_evg 27 rfl rfl ev_move ?_
  refine aw_evg 28 rfl rfl (ev_index_row 4) ?_
  refine aw_evg 29 rfl rfl (ev_field_addr 2) ?_
  refine aw_evg 30 rfl rfl (ev_load_atg (v := .int .i64 (xs.getD 0 hopD).point) (fun hg => cell_row (e := 43) (sz := 4) (m := xs.length) (cap := q.2) (j := 0 * 4 + 2) (hop_get (by simp at hg; omega) rfl) (by repeat (first | exact Has.head | apply Has.tail)))) ?_
  refine aw_evg 31 rfl rfl ev_geq ?_
  refine aw_evg 32 rfl rfl ev_and ?_
  refine aw_evg 33 rfl rfl ev_move ?_
  refine aw_evg 34 rfl rfl ev_move ?_
  refine aw_evg 35 rfl rfl (ev_index_row 4) ?_
  refine aw_evg 36 rfl rfl (ev_field_addr 3) ?_
  refine aw_evg 37 rfl rfl (ev_load_atg (v := .int .i64 (xs.getD 0 hopD).pos) (fun hg => cell_row (e := 43) (sz := 4) (m := xs.length) (cap := q.2) (j := 0 * 4 + 3) (hop_get (by simp at hg; omega) rfl) (by repeat (first | exact Has.head | apply Has.tail)))) ?_
  refine aw_evg 38 rfl rfl ev_move ?_
  refine aw_evg 39 rfl rfl (ev_index_row 4) ?_
  refine aw_evg 40 rfl rfl (ev_field_addr 3) ?_
  refine aw_evg 41 rfl rfl (ev_load_atg (v := .int .i64 (xs.getD 1 hopD).pos) (fun hg => cell_row (e := 43) (sz := 4) (m := xs.length) (cap := q.2) (j := 1 * 4 + 3) (hop_get (by simp at hg; omega) rfl) (by repeat (first | exact Has.head | apply Has.tail)))) ?_
  refine aw_evg 42 rfl rfl ev_neq ?_
  refine aw_evg 43 rfl rfl ev_and ?_
  refine aw_evg 44 rfl rfl ev_or ?_
  refine aw_ev 45 rfl ev_and ?_
  refine aw_ev 46 rfl ev_assign ?_
  refine aw_done (hK4 _ _ ?_); clear hK4
  refine cw_ret (kw_ret1 rfl rfl (fun w hm => ret_of0 hm (by rcases hcs with h | ⟨x, h⟩ | ⟨x, y, h, h1, h2, h3, h4⟩; (subst h; rfl); (subst h; rfl); (subst h; have e1 : ([x, y] : List Hop).getD 0 hopD = x := rfl; have e2 : ([x, y] : List Hop).getD 1 hopD = y := rfl; have e3 : ([x, y] : List Hop).length = 2 := rfl; rw [e1, e2, e3]; exact differ_two h1 h2 h3 h4))))

theorem differ_law (w : World) (a : Option Addr) (len cap : Nat) (zs : List Int) (v : Int) (h : IntsIn .i64 w a len cap zs) : Calls Try.prog 4 #[.slice a len cap, .int .i64 v] w (Ret w (.bool true)) := by
  have hi := ints_take h
  have hw := differ_walk w a cap (zs.take len) v (by rw [hi.1]; exact hi.2.2) hi.2.1
  rw [hi.1] at hw
  exact hw

end Go.Proofs.Ytnihhidbiepnhaa

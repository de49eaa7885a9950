/- The walk of LayoutHopsReverse. -/
import Derived.Test.YtnihhidbiepnhaaHopDiff
import Derived.Test.YtnihhidbiepnhaaEng11
namespace Go.Proofs.Ytnihhidbiepnhaa
open Go.Eng Go.RowKit
set_option maxRecDepth 10000
theorem hop_eq (x y : Hop) : decide (x = y) = true ↔ x.cells = y.cells := by
  obtain ⟨a, b, c, d⟩ := x
  obtain ⟨a', b', c', d'⟩ := y
  simp [Hop.cells]
theorem cnt_step {h : Hop} {xs : List Hop} {i : Nat} (hi : i < xs.length) : cnt h (xs.take (i + 1)) = cnt h (xs.take i) + if xs.getD i hopD = h then 1 else 0 := by
  rw [List.take_add_one, List.getElem?_eq_getElem hi]
  unfold cnt
  rw [List.filter_append, List.length_append]
  have : xs.getD i hopD = xs[i] := by simp [hi]
  rw [this]
  by_cases e : xs[i] = h <;> simp [e]
theorem cnt_le (h : Hop) (xs : List Hop) : cnt h xs ≤ xs.length := List.length_filter_le _ _
theorem hops_le (l : Lay) (s d : Int) : (hopsL l s d).length ≤ 2 := by
  rcases hopsL_cases l s d with h | ⟨x, h⟩ | ⟨x, y, h, _⟩ <;> rw [h] <;> simp

theorem reverse_walk (w : World) (a : Option Addr) (cap : Nat) (zs : List Int) (v : Int) (hz : zs.length ≤ 9223372036854775807) (hsl : Sl 0 w.heap.size w a (zs.map (.int .i64))) :
    Calls Try.prog 5 #[.slice a zs.length cap, .int .i64 v] w (Ret w (.bool true)) := by
  have hN := layM_le a cap zs
  refine calls_cw (args := [_, _]) Try.func5 rfl (Mem.start_many [] (many_nil_φ w) (fun k hk => absurd hk (many_nil_fp k))) rfl ?_
  refine cw_seq fun K1 hK1 => ?_
  refine cw_region ?_
  refine ow_ev ev_assign ?_
  refine ow_nil (hK1 _ _ ?_); clear hK1
  refine cw_seq fun K2 hK2 => ?_
  refine cw_region ?_
  refine ow_ev ev_move ?_
  refine ow_cons (st_callM (cs := []) (fun w' hm hφ hb => layout_spec w' a cap zs hz (sl_oldBut hsl (fun _ => many_nil_fp _) hm (by repeat (first | exact Has.head | apply Has.tail)))) (k := fun r _ => ?_))
  refine ow_cons (st_alloc rfl (k := fun b5 => ?_))
  refine ow_cons (st_store_all (vs := r.cells (layM a cap zs)) (k := ?_))
  refine ow_nil (hK2 _ _ ?_); clear hK2
  refine cw_seq fun K3 hK3 => ?_
  unfold layChunks
  generalize layM a cap zs = l at hN ⊢
  dsimp only [List.cons_append, List.nil_append]
  refine cw_region ?_
  refine ow_ev ev_load_all ?_
  refine ow_ev ev_move ?_
  refine ow_cons (st_callv (fun w hm => step_spec w r l v (by omega)) ?_)
  refine ow_cons (st_alloc rfl (k := fun b6 => ?_))
  refine ow_cons (st_store_all (k := ?_))
  refine ow_nil (hK3 _ _ ?_); clear hK3
  refine cw_seq fun K4 hK4 => ?_
  generalize (stepM l.sections.length v).1 = s
  generalize (stepM l.sections.length v).2 = d
  refine cw_region ?_
  refine ow_ev ev_load_all ?_
  refine ow_ev ev_load_all ?_
  refine ow_cons (st_callM (cs := []) (fun w' hm hφ hb => hops_spec w' r l s d (lay_at hm (by repeat (first | exact Has.head | apply Has.tail)) (by repeat (first | exact Has.head | apply Has.tail)) (by repeat (first | exact Has.head | apply Has.tail)) (by repeat (first | exact Has.head | apply Has.tail)))) (k := fun q _ => ?_))
  refine ow_ev ev_assign ?_
  refine ow_nil (hK4 _ _ ?_); clear hK4
  refine cw_seq fun K5 hK5 => ?_
  refine cw_seq fun K6 hK6 => ?_
  have hbk := fun h => hops_back (l := l) (s := s) (d := d) (h := h)
  have hle := hops_le l s d
  generalize hopsL l s d = xs at hbk hle ⊢
  refine cw_region ?_
  refine ow_ev ev_move ?_
  refine ow_ev ev_len ?_
  refine ow_ev ev_move ?_
  refine ow_nil (hK6 _ _ ?_); clear hK6
  refine cw_block ?_
  refine cw_loop (γ := Nat) (env := fun i => [(5, .v (.pointer (some ⟨b5, 0, none⟩))), (6, .v (.pointer (some ⟨b6, 0, none⟩))), (7, .v (.slice q.1 xs.length q.2)), (21, .v (.int .i64 (xs.length : Int))), (22, .v (.int .i64 (i : Int)))]) (mem := fun i => [own b5 28 (r.cells l), own b6 40 [.int .i64 s, .int .i64 d], row 9 1 r.a1 l.stations.length r.c1 (strCells l.stations), row 9 1 r.a2 l.points.length r.c2 (strCells l.points), row 31 5 r.a3 l.sections.length r.c3 (l.sections.flatMap Sec.cells), row 91 6 r.a4 l.links.length r.c4 (l.links.flatMap Lnk.cells), row 43 4 q.1 xs.length q.2 (xs.flatMap Hop.cells), oldBut w (many []).fp]) (R := fun i => i ≤ xs.length) (μ := fun i => xs.length - i) (0) (Nat.zero_le _) ⟨rfl, rfl, rfl, rfl, rfl, trivial⟩ (fun w hm => hm.reord) ?_
  intro i hR1 KL1 hL1
  refine cw_seq fun K7 hK7 => ?_
  refine cw_region ?_
  refine ow_ev ev_lss ?_
  refine ow_nil (hK7 _ _ ?_); clear hK7
  refine cw_seq fun K8 hK8 => ?_
  refine cw_if rfl (fun hc1 => ?_) (fun hc1 => ?_)  -- t23
  ·
    refine cw_skip (hK8 _ _ ?_); clear hK8
    refine cw_seq fun K9 hK9 => ?_
    refine cw_block ?_
    refine cw_seq fun K10 hK10 => ?_
    refine cw_region ?_
    refine ow_ev ev_move ?_
    refine ow_ev ev_assign ?_
    refine ow_nil (hK10 _ _ ?_); clear hK10
    refine cw_seq fun K11 hK11 => ?_
    refine cw_region_any [own b5 28 (r.cells l), row 9 1 r.a1 l.stations.length r.c1 (strCells l.stations), row 9 1 r.a2 l.points.length r.c2 (strCells l.points), row 31 5 r.a3 l.sections.length r.c3 (l.sections.flatMap Sec.cells), row 91 6 r.a4 l.links.length r.c4 (l.links.flatMap Lnk.cells), row 43 4 q.1 xs.length q.2 (xs.flatMap Hop.cells), oldBut w (many []).fp] (by repeat (first | exact List.Sublist.refl _ | apply List.Sublist.cons_cons | apply List.Sublist.cons)) ?_
    refine aw_ev 0 rfl ev_load_all ?_
    refine aw_ev 1 rfl ev_move ?_
    refine aw_ev 2 rfl ev_move ?_
    refine aw_ev 3 rfl (ev_index_row 4) ?_
    refine aw_ev 4 rfl (ev_field_addr 0) ?_
    refine aw_ev 5 rfl (ev_load_cells (l := [.int .i64 (xs.getD i hopD).to, .int .i64 (xs.getD i hopD).dir]) (fun w hm j u hu => by have hj : (Hop.cells (xs.getD i hopD))[j]? = some u := (by have h2 : j < 2 := (List.getElem?_eq_some_iff.1 hu).1; have h3 : j = 0 ∨ j = 1 := (by omega); rcases h3 with rfl | rfl <;> exact hu); have := cell_row (e := 43) (sz := 4) (a := q.1) (m := xs.length) (cap := q.2) (j := i * 4 + j) (hop_get (by omega) hj) (by repeat (first | exact Has.head | apply Has.tail)) w hm; rw [← Nat.add_assoc] at this; exact this)) ?_
    refine aw_one 6 rfl (st_callv (fun w hm => rev_spec w (xs.getD i hopD).to (xs.getD i hopD).dir) ⟨fun w hm => hm.sub (by repeat (first | exact List.Sublist.refl _ | apply List.Sublist.cons_cons | apply List.Sublist.cons)), ?_⟩)
    refine aw_one 7 rfl (st_callM (cs := []) (fun w' hm hφ hb => hops_spec w' r l (xs.getD i hopD).to (if (xs.getD i hopD).dir = 0 then 1 else 0) (lay_at hm (by repeat (first | exact Has.head | apply Has.tail)) (by repeat (first | exact Has.head | apply Has.tail)) (by repeat (first | exact Has.head | apply Has.tail)) (by repeat (first | exact Has.head | apply Has.tail)))) (k := fun q2 _ => ⟨fun w hm => hm.reord, ?_⟩))
    refine aw_ev 8 rfl ev_assign ?_
    refine aw_done (hK11 _ _ ?_); clear hK11
    refine cw_seq fun K12 hK12 => ?_
    refine cw_region ?_
    refine ow_ev ev_assign ?_
    refine ow_nil (hK12 _ _ ?_); clear hK12
    have hone := hbk (xs.getD i hopD) (by have : i < xs.length := (by omega); simp [this])
    have hle2 := hops_le l (xs.getD i hopD).to (if (xs.getD i hopD).dir = 0 then 1 else 0)
    generalize hopsL l (xs.getD i hopD).to (if (xs.getD i hopD).dir = 0 then 1 else 0) = ys at hone hle2 ⊢
    refine cw_seq fun K13 hK13 => ?_
    refine cw_seq fun K14 hK14 => ?_
    refine cw_region ?_
    refine ow_ev ev_move ?_
    refine ow_ev ev_len ?_
    refine ow_ev ev_move ?_
    refine ow_nil (hK14 _ _ ?_); clear hK14
    refine cw_block ?_
    refine cw_loop (γ := Nat × Nat) (env := fun g => [(5, .v (.pointer (some ⟨b5, 0, none⟩))), (6, .v (.pointer (some ⟨b6, 0, none⟩))), (7, .v (.slice q.1 xs.length q.2)), (8, .v (.int .i64 (i : Int))), (9, .v (.slice q2.1 ys.length q2.2)), (10, .v (.int .i64 (g.2 : Int))), (21, .v (.int .i64 (xs.length : Int))), (22, .v (.int .i64 (i : Int))), (34, .v (.int .i64 (ys.length : Int))), (35, .v (.int .i64 (g.1 : Int)))]) (mem := fun g => [own b5 28 (r.cells l), own b6 40 [.int .i64 s, .int .i64 d], row 9 1 r.a1 l.stations.length r.c1 (strCells l.stations), row 9 1 r.a2 l.points.length r.c2 (strCells l.points), row 31 5 r.a3 l.sections.length r.c3 (l.sections.flatMap Sec.cells), row 91 6 r.a4 l.links.length r.c4 (l.links.flatMap Lnk.cells), row 43 4 q.1 xs.length q.2 (xs.flatMap Hop.cells), row 43 4 q2.1 ys.length q2.2 (ys.flatMap Hop.cells), oldBut w (many []).fp]) (R := fun g => g.1 ≤ ys.length ∧ g.2 = cnt ⟨s, if d = 0 then 1 else 0, (xs.getD i hopD).point, (xs.getD i hopD).pos⟩ (ys.take g.1) ∧ g.2 ≤ 2) (μ := fun g => ys.length - g.1) ((0, 0)) (⟨Nat.zero_le _, rfl, Nat.zero_le _⟩) ⟨rfl, rfl, rfl, rfl, rfl, rfl, rfl, rfl, rfl, rfl, trivial⟩ (fun w hm => hm.reord) ?_
    intro g hR2 KL2 hL2
    obtain ⟨k, m⟩ := g
    dsimp only at hR2 ⊢
    obtain ⟨hk, hm2, hm3⟩ := hR2
    refine cw_seq fun K15 hK15 => ?_
    refine cw_region ?_
    refine ow_ev ev_lss ?_
    refine ow_nil (hK15 _ _ ?_); clear hK15
    refine cw_seq fun K16 hK16 => ?_
    refine cw_if rfl (fun hc2 => ?_) (fun hc2 => ?_)  -- t36
    ·
      refine cw_skip (hK16 _ _ ?_); clear hK16
      refine cw_seq fun K17 hK17 => ?_
      refine cw_block ?_
      refine cw_seq fun K18 hK18 => ?_
      refine cw_region ?_
      refine ow_ev ev_move ?_
      refine ow_ev ev_assign ?_
      refine ow_nil (hK18 _ _ ?_); clear hK18
      refine cw_seq fun K19 hK19 => ?_
      refine cw_region_any [own b6 40 [.int .i64 s, .int .i64 d], row 43 4 q.1 xs.length q.2 (xs.flatMap Hop.cells), row 43 4 q2.1 ys.length q2.2 (ys.flatMap Hop.cells), oldBut w (many []).fp] (by repeat (first | exact List.Sublist.refl _ | apply List.Sublist.cons_cons | apply List.Sublist.cons)) ?_
      refine aw_ev 0 rfl ev_move ?_
      refine aw_ev 1 rfl ev_move ?_
      refine aw_ev 2 rfl (ev_index_row 4) ?_
      refine aw_ev 3 rfl (ev_load_cells (l := (ys.getD k hopD).cells) (fun w hm j u hu => by have := cell_row (e := 43) (sz := 4) (a := q2.1) (m := ys.length) (cap := q2.2) (j := k * 4 + j) (hop_get (by omega) hu) (by repeat (first | exact Has.head | apply Has.tail)) w hm; rw [← Nat.add_assoc] at this; exact this)) ?_
      refine aw_ev 4 rfl ev_load_all ?_
      refine aw_ev 6 rfl ev_move ?_
      refine aw_ev 7 rfl ev_move ?_
      refine aw_ev 8 rfl (ev_index_row 4) ?_
      refine aw_ev 9 rfl (ev_field_addr 2) ?_
      refine aw_ev 10 rfl (ev_load_at (v := .int .i64 (xs.getD i hopD).point) (fun w hm => by have := cell_row (e := 43) (sz := 4) (a := q.1) (m := xs.length) (cap := q.2) (j := i * 4 + 2) (hop_get (u := .int .i64 (xs.getD i hopD).point) (by omega) rfl) (by repeat (first | exact Has.head | apply Has.tail)) w hm; rw [← Nat.add_assoc] at this; exact this)) ?_
      refine aw_ev 11 rfl ev_move ?_
      refine aw_ev 12 rfl ev_move ?_
      refine aw_ev 13 rfl (ev_index_row 4) ?_
      refine aw_ev 14 rfl (ev_field_addr 3) ?_
      refine aw_ev 15 rfl (ev_load_at (v := .int .i64 (xs.getD i hopD).pos) (fun w hm => by have := cell_row (e := 43) (sz := 4) (a := q.1) (m := xs.length) (cap := q.2) (j := i * 4 + 3) (hop_get (u := .int .i64 (xs.getD i hopD).pos) (by omega) rfl) (by repeat (first | exact Has.head | apply Has.tail)) w hm; rw [← Nat.add_assoc] at this; exact this)) ?_
      refine aw_one 5 rfl (st_callv (fun w hm => rev_spec w s d) ⟨fun w hm => hm.sub (by repeat (first | exact List.Sublist.refl _ | apply List.Sublist.cons_cons | apply List.Sublist.cons)), ?_⟩)
      refine aw_ev 16 rfl (ev_build (⟨s, if d = 0 then 1 else 0, (xs.getD i hopD).point, (xs.getD i hopD).pos⟩ : Hop).cells) ?_
      refine aw_ev 17 rfl (ev_eqlF [.int .i64, .int .i64, .int .i64, .int .i64] (decide (ys.getD k hopD = ⟨s, if d = 0 then 1 else 0, (xs.getD i hopD).point, (xs.getD i hopD).pos⟩)) (hop_eq _ _)) ?_
      refine aw_done (hK19 _ _ ?_); clear hK19
      refine cw_if rfl (fun hc3 => ?_) (fun hc3 => ?_)  -- t55
      ·
        refine cw_region ?_
        refine ow_ev ev_move ?_
        refine ow_ev ev_add ?_
        refine ow_ev ev_assign ?_
        refine ow_nil (hK17 _ _ ?_); clear hK17
        refine cw_region ?_
        refine ow_ev ev_add ?_
        refine ow_ev ev_move ?_
        refine ow_nil (hL2 ((k + 1, m + 1)) _ _ (⟨by show k + 1 ≤ _; omega, by show m + 1 = _; rw [cnt_step (by omega), ← hm2, if_pos hc3], by have e : m + 1 = cnt ⟨s, if d = 0 then 1 else 0, (xs.getD i hopD).point, (xs.getD i hopD).pos⟩ (ys.take (k + 1)) := (by rw [cnt_step (by omega), ← hm2, if_pos hc3]); show m + 1 ≤ 2; rw [e]; exact Nat.le_trans (cnt_le _ _) (by rw [List.length_take]; omega)⟩) (by show _ - (k + 1) < _; omega) ⟨rfl, rfl, rfl, rfl, rfl, rfl, rfl, rfl, rfl, rfl, trivial⟩ (fun w hm => hm.reord))
      ·
        refine cw_skip (hK17 _ _ ?_); clear hK17
        refine cw_region ?_
        refine ow_ev ev_add ?_
        refine ow_ev ev_move ?_
        refine ow_nil (hL2 ((k + 1, m)) _ _ (⟨by show k + 1 ≤ _; omega, by show m = _; rw [cnt_step (by omega), ← hm2, if_neg hc3]; rfl, hm3⟩) (by show _ - (k + 1) < _; omega) ⟨rfl, rfl, rfl, rfl, rfl, rfl, rfl, rfl, rfl, rfl, trivial⟩ (fun w hm => hm.reord))
    ·
      refine cw_exit (hK13 _ _ ?_); clear hK13
      obtain rfl : k = ys.length := by omega
      rw [List.take_length, hone] at hm2
      refine cw_seq fun K20 hK20 => ?_
      refine cw_region ?_
      refine ow_ev ev_move ?_
      refine ow_ev ev_neq ?_
      refine ow_nil (hK20 _ _ ?_); clear hK20
      refine cw_cond_false rfl (by simp [hm2]) ?_
      refine cw_skip (hK9 _ _ ?_); clear hK9
      refine cw_region ?_
      refine ow_ev ev_add ?_
      refine ow_ev ev_move ?_
      refine ow_nil (hL1 (i + 1) _ _ (by omega) (by omega) ⟨rfl, rfl, rfl, rfl, rfl, trivial⟩ (fun w hm => hm.reord))
  ·
    refine cw_exit (hK5 _ _ ?_); clear hK5
    refine cw_seq fun K21 hK21 => ?_
    refine cw_region ?_
    refine ow_cons (st_callv (fun w hm => awake4_spec w) ?_)
    refine ow_ev ev_move ?_
    refine ow_evg rfl ev_move ?_
    refine ow_evg rfl ev_len ?_
    refine ow_evg rfl ev_leq ?_
    refine ow_ev ev_and ?_
    refine ow_ev ev_assign ?_
    refine ow_nil (hK21 _ _ ?_); clear hK21
    refine cw_ret (kw_ret1 rfl rfl (fun w hm => ret_of0 hm (by simp; omega)))

theorem reverse_law (w : World) (a : Option Addr) (len cap : Nat) (zs : List Int) (v : Int) (h : IntsIn .i64 w a len cap zs) : Calls Try.prog 5 #[.slice a len cap, .int .i64 v] w (Ret w (.bool true)) := by
  have hi := ints_take h
  have hw := reverse_walk w a cap (zs.take len) v (by rw [hi.1]; exact hi.2.2) hi.2.1
  rw [hi.1] at hw
  exact hw

end Go.Proofs.Ytnihhidbiepnhaa

/- Models of functions, and that the code computes them. -/
import Derived.Test.YtedocibniankjaaFb
namespace Go.Proofs.Ytedocibniankjaa
open Go.Dc Go.RowKit
set_option maxRecDepth 10000
set_option linter.unusedVariables false
def keep2_Graph_k2 (lg_1_0 : List Int) (lg_2_1 : List Arc) : Unit → Option Graph := fun _ =>
  some (Graph.mk lg_1_0 lg_2_1)
def keep2_Graph_b2 (y2 : Keep_Source) (y5 : Int × Int) (lg_1_0 : List Int) (cont2 : (Int × (List Arc) × Int) → Option Graph) : (Int × (List Arc) × Int) → Option Graph := fun (s_2_1, lg_2_1, k_2) =>
  if decide (0 < k_2) then
    ((keep_Source_Next_m (Keep_Source.mk y2.l s_2_1) (2 + y5.1)).bind fun y41 =>
    chk (i64b (y41.1 + 1)) <|
    chk (i64b ((2 + y5.1) - 1)) <|
    (keep_Source_Next_m (Keep_Source.mk y2.l y41.2) ((2 + y5.1) - 1)).bind fun y46 =>
    chk (i64b ((y41.1 + 1) + y46.1)) <|
    chk (decide ((2 + y5.1) ≠ 0)) <|
    (keep_Source_Next_m (Keep_Source.mk y2.l y46.2) 3).bind fun y51 =>
    (keep_Source_Next_m (Keep_Source.mk y2.l y51.2) 12).bind fun y54 =>
    chk (i64b (y54.1 - 4)) <|
    chk (decide ((lg_2_1.length + ([(Arc.mk y41.1 (((y41.1 + 1) + y46.1).tmod (2 + y5.1)) y51.1 (y54.1 - 4))] : List Arc).length) * 32 ≤ 140737488355328)) <|
    chk (i64b (k_2 - 1)) <|
    cont2 (y54.2, (lg_2_1 ++ ([(Arc.mk y41.1 (((y41.1 + 1) + y46.1).tmod (2 + y5.1)) y51.1 (y54.1 - 4))] : List Arc)), (k_2 - 1)))
  else
    (keep2_Graph_k2 lg_1_0 lg_2_1 ())
def keep2_Graph_k1 (y2 : Keep_Source) (s_1_1 : Int) (y5 : Int × Int) (lg_1_0 : List Int) : Unit → Option Graph := fun _ =>
  (keep_Source_Next_m (Keep_Source.mk y2.l s_1_1) 6).bind fun y37 =>
  iter (keep2_Graph_b2 y2 y5 lg_1_0) FUEL (y37.2, ([] : List Arc), y37.1)
def keep2_Graph_b1 (y2 : Keep_Source) (y5 : Int × Int) (cont1 : (Int × (List Int) × Int) → Option Graph) : (Int × (List Int) × Int) → Option Graph := fun (s_1_1, lg_1_0, k_1) =>
  if decide (0 < k_1) then
    ((keep_Source_Next_m (Keep_Source.mk y2.l s_1_1) (2 + y5.1)).bind fun y20 =>
    (keep_Source_Next_m (Keep_Source.mk y2.l y20.2) (2 + y5.1)).bind fun y23 =>
    (idx lg_1_0 y20.1).bind fun x26 =>
    chk (i64b (x26 + 1)) <|
    (idx lg_1_0 y20.1).bind fun x29 =>
    (idx (lg_1_0.set y20.1.toNat (x26 + 1)) y23.1).bind fun x31 =>
    chk (i64b (x31 - 1)) <|
    (idx (lg_1_0.set y20.1.toNat (x26 + 1)) y23.1).bind fun x34 =>
    chk (i64b (k_1 - 1)) <|
    cont1 (y23.2, ((lg_1_0.set y20.1.toNat (x26 + 1)).set y23.1.toNat (x31 - 1)), (k_1 - 1)))
  else
    (keep2_Graph_k1 y2 s_1_1 y5 lg_1_0 ())
def keep2_Graph_m (l0 : List Int) : Option Graph :=
  (keep_From_m l0).bind fun y2 =>
  (keep_Source_Next_m y2 3).bind fun y5 =>
  chk (i64b (2 + y5.1)) <|
  (mk (α := Int) 0 (2 + y5.1)).bind fun m9 =>
  (keep_Source_Next_m (Keep_Source.mk y2.l y5.2) 5).bind fun y13 =>
  iter (keep2_Graph_b1 y2 y5) FUEL (y13.2, m9, y13.1)
theorem keep2_Graph_spec (S : Soup) (w : World) (l0 : List Int) (r_l0 : GoRep.R (List Int)) (y : Graph) (hM : keep2_Graph_m l0 = some y) (hS : ∀ k, S k → k < w.heap.size) (h_l0 : GoRep.ok S w r_l0 l0) :
    Calls Try.prog 20 #[.slice r_l0.a l0.length r_l0.cap] w (Post (β := (GoRep.R Graph)) S [] (fun g => .agg #[.slice g.1.a y.Supply.length g.1.cap, .slice g.2.a y.Arcs.length g.2.cap]) (fun g => [trow 3 g.1 y.Supply, trow 40 g.2 y.Arcs]) w) := by
  refine calls_cw (args := [_]) Try.func20 rfl ((pre_nil hS).start |>.immP (α := List Int) (r := r_l0) (x := l0) h_l0) rfl ?_
  unfold keep2_Graph_m at hM
  refine cw_seq fun K1 hK1 => ?_
  refine cw_region ?_
  refine ow_cons (st_alloc rfl (k := fun b1 => ?_))
  refine ow_nil (hK1 _ _ ?_); clear hK1
  refine cw_seq fun K2 hK2 => ?_
  refine cw_region ?_
  refine ow_ev ev_move ?_
  obtain ⟨y2, hy3, hM⟩ := bind_some hM
  refine ow_cons (st_callS SelL.nil (fun S w hs hP => keep_From_spec _ w l0 r_l0 y2 hy3 hs.lt ((Sk.imm (α := List Int) (r := r_l0) (x := l0) (by repeat (first | exact Has.head | apply Has.tail))) S w hs))  (fun r4 => ?_))
  dsimp only [List.cons_append, List.nil_append]
  refine ow_ev ev_assign ?_
  refine ow_nil (hK2 _ _ ?_); clear hK2
  refine cw_seq fun K3 hK3 => ?_
  refine cw_region ?_
  refine ow_ev ev_move ?_
  obtain ⟨y5, hy6, hM⟩ := bind_some hM
  refine ow_cons (st_callF (by repeat (first | exact SelL.nil | (apply SelL.cons; · (repeat (first | exact Sel.head | apply Sel.tail))))) (fun S w hs hP => keep_Source_Next_spec _ w r4.1 y2 r4.2 3 y5 hy6 hP (Kn.lend (Kn.imm (α := List Int) (r := r4.2) (x := y2.l) (by repeat (first | exact Has.head | apply Has.tail))) hs)) (by intro r c hc; simp only [List.mem_cons, List.not_mem_nil, or_false] at hc; rcases hc with rfl <;> first | exact flatC_own | exact flatC_trow (fun _ _ _ _ => trivial)) (fun r7 => ?_))
  dsimp only [List.cons_append, List.nil_append]
  obtain ⟨hI8, hM⟩ := chk_some hM
  refine ow_ev (ev_add (hr := fun hg => i64b_I64 hI8)) ?_
  refine ow_ev ev_assign ?_
  refine ow_nil (hK3 _ _ ?_); clear hK3
  refine cw_seq fun K4 hK4 => ?_
  refine cw_region ?_
  refine ow_ev ev_move ?_
  obtain ⟨m9, hm10, hM⟩ := bind_some hM
  refine ow_cons (st_make (α := Int) (e := 3) 0 () hm10 (fun _ _ => trivial) (fun r11 hr11 => ?_))
  refine ow_ev (ev_build [.slice r11.a m9.length r11.cap, .slice none 0 0]) ?_
  refine ow_cons (st_alloc rfl (k := fun b12 => ?_))
  refine ow_cons (st_store_all (b := b12) (vs := [.slice r11.a m9.length r11.cap, .slice none 0 0]) (k := ?_))
  refine ow_nil (hK4 _ _ ?_); clear hK4
  refine cw_seq fun K5 hK5 => ?_
  refine cw_seq fun K6 hK6 => ?_
  refine cw_region ?_
  refine ow_ev ev_move ?_
  obtain ⟨y13, hy14, hM⟩ := bind_some hM
  refine ow_cons (st_callF (by repeat (first | exact SelL.nil | (apply SelL.cons; · (repeat (first | exact Sel.head | apply Sel.tail))))) (fun S w hs hP => keep_Source_Next_spec _ w r4.1 (Keep_Source.mk y2.l y5.2) r4.2 5 y13 hy14 hP (Kn.lend (Kn.imm (α := List Int) (r := r4.2) (x := y2.l) (by repeat (first | exact Has.head | apply Has.tail))) hs)) (by intro r c hc; simp only [List.mem_cons, List.not_mem_nil, or_false] at hc; rcases hc with rfl <;> first | exact flatC_own | exact flatC_trow (fun _ _ _ _ => trivial)) (fun r15 => ?_))
  dsimp only [List.cons_append, List.nil_append]
  refine ow_ev ev_assign ?_
  refine ow_nil (hK6 _ _ ?_); clear hK6
  refine cw_block ?_
  refine cw_imp (fun w hm => hm.row_nil (α := Arc) 40 (fun _ => ())) ?_
  refine cw_imp (fun w hm => hm.row_nil (α := Int) 3 (fun _ => ())) ?_
  refine cw_imp (fun w hm => hm.row_nil (α := Arc) 40 (fun _ => ())) ?_
  refine cw_loop (γ := Nat × (Int × (List Int) × Int) × Unit) (env := fun (_, (s_1_1, lg_1_0, k_1), _) => [(2, .v (.pointer (some ⟨b1, 0, none⟩))), (3, .v (.pointer (some ⟨r4.1, 0, none⟩))), (4, .v (.int .i64 (2 + y5.1))), (5, .v (.pointer (some ⟨b12, 0, none⟩))), (6, .v (.int .i64 k_1))]) (mem := fun (_, (s_1_1, lg_1_0, k_1), _) => [trow 3 (⟨none, 0, (fun _ => ())⟩ : SR (GoRep.R Int)  ) ([] : List Int), trow 40 (⟨none, 0, (fun _ => ())⟩ : SR (GoRep.R Arc)   ) ([] : List Arc), own b1 25 [.slice (⟨none, 0, (fun _ => ())⟩ : SR (GoRep.R Int)  ).a (([] : List Int).length) (⟨none, 0, (fun _ => ())⟩ : SR (GoRep.R Int)  ).cap, .slice (⟨none, 0, (fun _ => ())⟩ : SR (GoRep.R Arc)   ).a (([] : List Arc).length) (⟨none, 0, (fun _ => ())⟩ : SR (GoRep.R Arc)   ).cap], imm (α := (List Int)) r4.2 y2.l, own r4.1 99 [.slice r4.2.a y2.l.length r4.2.cap, .int .i64 s_1_1], trow 3 r11 lg_1_0, trow 40 (⟨none, 0, (fun _ => ())⟩ : SR (GoRep.R Arc) ) ([] : List Arc), own b12 25 [.slice r11.a lg_1_0.length r11.cap, .slice (⟨none, 0, (fun _ => ())⟩ : SR (GoRep.R Arc) ).a (([] : List Arc).length) (⟨none, 0, (fun _ => ())⟩ : SR (GoRep.R Arc) ).cap]]) (R := fun g => iter (keep2_Graph_b1 y2 y5) g.1 g.2.1 = some y) (μ := fun g => g.1) (FUEL, (y13.2, m9, y13.1), ()) hM ⟨rfl, rfl, rfl, rfl, rfl, trivial⟩ (fun w hm => hm.reord) ?_
  clear hM
  intro g hM KL1 hL1
  obtain ⟨nn1, ⟨s_1_1, lg_1_0, k_1⟩, ⟨⟩⟩ := g
  dsimp only at hM ⊢
  obtain ⟨nn1, cont1, rfl, hcont1, hM⟩ := iter_open' hM
  dsimp only [keep2_Graph_b1] at hM
  refine cw_seq fun K7 hK7 => ?_
  refine cw_seq fun K8 hK8 => ?_
  refine cw_region ?_
  refine ow_ev ev_move ?_
  refine ow_ev ev_gtr ?_
  refine ow_nil (hK8 _ _ ?_); clear hK8
  refine cw_cond rfl (fun hc19 => ?_) (fun hc19 => ?_)
  ·
    replace hM := (ite_t hc19).symm.trans hM
    refine cw_skip (hK7 _ _ ?_); clear hK7
    refine cw_seq fun K9 hK9 => ?_
    refine cw_block ?_
    refine cw_seq fun K10 hK10 => ?_
    refine cw_region ?_
    refine ow_ev ev_move ?_
    refine ow_ev ev_move ?_
    obtain ⟨y20, hy21, hM⟩ := bind_some hM
    refine ow_cons (st_callF (by repeat (first | exact SelL.nil | (apply SelL.cons; · (repeat (first | exact Sel.head | apply Sel.tail))))) (fun S w hs hP => keep_Source_Next_spec _ w r4.1 (Keep_Source.mk y2.l s_1_1) r4.2 (2 + y5.1) y20 hy21 hP (Kn.lend (Kn.imm (α := List Int) (r := r4.2) (x := y2.l) (by repeat (first | exact Has.head | apply Has.tail))) hs)) (by intro r c hc; simp only [List.mem_cons, List.not_mem_nil, or_false] at hc; rcases hc with rfl <;> first | exact flatC_own | exact flatC_trow (fun _ _ _ _ => trivial)) (fun r22 => ?_))
    dsimp only [List.cons_append, List.nil_append]
    refine ow_ev ev_move ?_
    refine ow_ev ev_move ?_
    obtain ⟨y23, hy24, hM⟩ := bind_some hM
    refine ow_cons (st_callF (by repeat (first | exact SelL.nil | (apply SelL.cons; · (repeat (first | exact Sel.head | apply Sel.tail))))) (fun S w hs hP => keep_Source_Next_spec _ w r4.1 (Keep_Source.mk y2.l y20.2) r4.2 (2 + y5.1) y23 hy24 hP (Kn.lend (Kn.imm (α := List Int) (r := r4.2) (x := y2.l) (by repeat (first | exact Has.head | apply Has.tail))) hs)) (by intro r c hc; simp only [List.mem_cons, List.not_mem_nil, or_false] at hc; rcases hc with rfl <;> first | exact flatC_own | exact flatC_trow (fun _ _ _ _ => trivial)) (fun r25 => ?_))
    dsimp only [List.cons_append, List.nil_append]
    refine ow_ev ev_assign ?_
    refine ow_ev ev_assign ?_
    refine ow_nil (hK10 _ _ ?_); clear hK10
    refine cw_seq fun K11 hK11 => ?_
    refine cw_region ?_
    refine ow_ev (ev_field_addr 0) ?_
    refine ow_ev (ev_load_own (b := b12)) ?_
    refine ow_ev ev_move ?_
    obtain ⟨x26, hx27, hM⟩ := bind_some hM
    refine ow_ev (ev_idx (xs := lg_1_0) 1 (Kn.trow (e := 3) (r := r11) (by repeat (first | exact Has.head | apply Has.tail))) (fun hg => let h := idx_some hx27; ⟨h.1, h.2.1⟩)) ?_
    refine ow_ev (ev_ld (i := y20.1) (xs := lg_1_0) (y := x26) 0 (Kn.trow (e := 3) (r := r11) (by repeat (first | exact Has.head | apply Has.tail))) (fun _ => hx27)) ?_
    obtain ⟨hI28, hM⟩ := chk_some hM
    refine ow_ev (ev_add (hr := fun hg => i64b_I64 hI28)) ?_
    obtain ⟨x29, hx30, hM⟩ := bind_some hM
    refine ow_ev (ev_idx (xs := lg_1_0) 1 (Kn.trow (e := 3) (r := r11) (by repeat (first | exact Has.head | apply Has.tail))) (fun hg => let h := idx_some hx30; ⟨h.1, h.2.1⟩)) ?_
    refine ow_cons (st_set (r := r11) (i := y20.1) (xs := lg_1_0) (u := x29) (vs := [.int .i64 (x26 + 1)]) 0 (x26 + 1) hx30 rfl (fun _ _ h => h) (by repeat (first | exact Upd.head | apply Upd.tail)) ?_)
    refine ow_nil (hK11 _ _ ?_); clear hK11
    refine cw_region ?_
    refine ow_ev (ev_field_addr 0) ?_
    refine ow_ev (ev_load_own (b := b12)) ?_
    refine ow_ev ev_move ?_
    obtain ⟨x31, hx32, hM⟩ := bind_some hM
    refine ow_ev (ev_idx (xs := (lg_1_0.set y20.1.toNat (x26 + 1))) 1 (Kn.trow (e := 3) (r := r11) (by repeat (first | exact Has.head | apply Has.tail))) (fun hg => let h := idx_some hx32; ⟨h.1, h.2.1⟩)) ?_
    refine ow_ev (ev_ld (i := y23.1) (xs := (lg_1_0.set y20.1.toNat (x26 + 1))) (y := x31) 0 (Kn.trow (e := 3) (r := r11) (by repeat (first | exact Has.head | apply Has.tail))) (fun _ => hx32)) ?_
    obtain ⟨hI33, hM⟩ := chk_some hM
    refine ow_ev (ev_sub (hr := fun hg => i64b_I64 hI33)) ?_
    obtain ⟨x34, hx35, hM⟩ := bind_some hM
    refine ow_ev (ev_idx (xs := (lg_1_0.set y20.1.toNat (x26 + 1))) 1 (Kn.trow (e := 3) (r := r11) (by repeat (first | exact Has.head | apply Has.tail))) (fun hg => let h := idx_some hx35; ⟨h.1, h.2.1⟩)) ?_
    refine ow_cons (st_set (r := r11) (i := y23.1) (xs := (lg_1_0.set y20.1.toNat (x26 + 1))) (u := x34) (vs := [.int .i64 (x31 - 1)]) 0 (x31 - 1) hx35 rfl (fun _ _ h => h) (by repeat (first | exact Upd.head | apply Upd.tail)) ?_)
    refine ow_nil (hK9 _ _ ?_); clear hK9
    refine cw_region ?_
    refine ow_ev ev_move ?_
    obtain ⟨hI36, hM⟩ := chk_some hM
    refine ow_ev (ev_sub (hr := fun hg => i64b_I64 hI36)) ?_
    refine ow_ev ev_assign ?_
    refine ow_nil (hL1 (nn1, (y23.2, ((lg_1_0.set y20.1.toNat (x26 + 1)).set y23.1.toNat (x31 - 1)), (k_1 - 1)), ()) _ _ (eqc hcont1 hM) (Nat.lt_succ_self _) ⟨rfl, rfl, rfl, rfl, rfl, trivial⟩ (fun w hm => by simp only [List.length_set]; exact hm.reord))
  ·
    replace hM := (ite_f hc19).symm.trans hM
    refine cw_exit (hK5 _ _ ?_); clear hK5
    dsimp only [keep2_Graph_k1] at hM
    refine cw_seq fun K12 hK12 => ?_
    refine cw_seq fun K13 hK13 => ?_
    refine cw_region ?_
    refine ow_ev ev_move ?_
    obtain ⟨y37, hy38, hM⟩ := bind_some hM
    refine ow_cons (st_callF (by repeat (first | exact SelL.nil | (apply SelL.cons; · (repeat (first | exact Sel.head | apply Sel.tail))))) (fun S w hs hP => keep_Source_Next_spec _ w r4.1 (Keep_Source.mk y2.l s_1_1) r4.2 6 y37 hy38 hP (Kn.lend (Kn.imm (α := List Int) (r := r4.2) (x := y2.l) (by repeat (first | exact Has.head | apply Has.tail))) hs)) (by intro r c hc; simp only [List.mem_cons, List.not_mem_nil, or_false] at hc; rcases hc with rfl <;> first | exact flatC_own | exact flatC_trow (fun _ _ _ _ => trivial)) (fun r39 => ?_))
    dsimp only [List.cons_append, List.nil_append]
    refine ow_ev ev_assign ?_
    refine ow_nil (hK13 _ _ ?_); clear hK13
    refine cw_block ?_
    refine cw_loop (γ := Nat × (Int × (List Arc) × Int) × (SR (GoRep.R Arc))) (env := fun (_, (s_2_1, lg_2_1, k_2), rg_2_1) => [(2, .v (.pointer (some ⟨b1, 0, none⟩))), (3, .v (.pointer (some ⟨r4.1, 0, none⟩))), (4, .v (.int .i64 (2 + y5.1))), (5, .v (.pointer (some ⟨b12, 0, none⟩))), (9, .v (.int .i64 k_2))]) (mem := fun (_, (s_2_1, lg_2_1, k_2), rg_2_1) => [trow 3 (⟨none, 0, (fun _ => ())⟩ : SR (GoRep.R Int)  ) ([] : List Int), trow 40 (⟨none, 0, (fun _ => ())⟩ : SR (GoRep.R Arc)   ) ([] : List Arc), own b1 25 [.slice (⟨none, 0, (fun _ => ())⟩ : SR (GoRep.R Int)  ).a (([] : List Int).length) (⟨none, 0, (fun _ => ())⟩ : SR (GoRep.R Int)  ).cap, .slice (⟨none, 0, (fun _ => ())⟩ : SR (GoRep.R Arc)   ).a (([] : List Arc).length) (⟨none, 0, (fun _ => ())⟩ : SR (GoRep.R Arc)   ).cap], imm (α := (List Int)) r4.2 y2.l, own r4.1 99 [.slice r4.2.a y2.l.length r4.2.cap, .int .i64 s_2_1], trow 3 r11 lg_1_0, trow 40 rg_2_1 lg_2_1, own b12 25 [.slice r11.a lg_1_0.length r11.cap, .slice rg_2_1.a lg_2_1.length rg_2_1.cap]]) (R := fun g => iter (keep2_Graph_b2 y2 y5 lg_1_0) g.1 g.2.1 = some y) (μ := fun g => g.1) (FUEL, (y37.2, ([] : List Arc), y37.1), (⟨none, 0, (fun _ => ())⟩ : SR (GoRep.R Arc) )) hM ⟨rfl, rfl, rfl, rfl, rfl, trivial⟩ (fun w hm => hm.reord) ?_
    clear hM
    intro g hM KL2 hL2
    obtain ⟨nn2, ⟨s_2_1, lg_2_1, k_2⟩, rg_2_1⟩ := g
    dsimp only at hM ⊢
    obtain ⟨nn2, cont2, rfl, hcont2, hM⟩ := iter_open' hM
    dsimp only [keep2_Graph_b2] at hM
    refine cw_seq fun K14 hK14 => ?_
    refine cw_seq fun K15 hK15 => ?_
    refine cw_region ?_
    refine ow_ev ev_move ?_
    refine ow_ev ev_gtr ?_
    refine ow_nil (hK15 _ _ ?_); clear hK15
    refine cw_cond rfl (fun hc40 => ?_) (fun hc40 => ?_)
    ·
      replace hM := (ite_t hc40).symm.trans hM
      refine cw_skip (hK14 _ _ ?_); clear hK14
      refine cw_seq fun K16 hK16 => ?_
      refine cw_block ?_
      refine cw_seq fun K17 hK17 => ?_
      refine cw_region ?_
      refine ow_ev ev_move ?_
      refine ow_ev ev_move ?_
      obtain ⟨y41, hy42, hM⟩ := bind_some hM
      refine ow_cons (st_callF (by repeat (first | exact SelL.nil | (apply SelL.cons; · (repeat (first | exact Sel.head | apply Sel.tail))))) (fun S w hs hP => keep_Source_Next_spec _ w r4.1 (Keep_Source.mk y2.l s_2_1) r4.2 (2 + y5.1) y41 hy42 hP (Kn.lend (Kn.imm (α := List Int) (r := r4.2) (x := y2.l) (by repeat (first | exact Has.head | apply Has.tail))) hs)) (by intro r c hc; simp only [List.mem_cons, List.not_mem_nil, or_false] at hc; rcases hc with rfl <;> first | exact flatC_own | exact flatC_trow (fun _ _ _ _ => trivial)) (fun r43 => ?_))
      dsimp only [List.cons_append, List.nil_append]
      refine ow_ev ev_assign ?_
      refine ow_nil (hK17 _ _ ?_); clear hK17
      refine cw_region_z [trow 3 (⟨none, 0, (fun _ => ())⟩ : SR (GoRep.R Int)  ) ([] : List Int), trow 40 (⟨none, 0, (fun _ => ())⟩ : SR (GoRep.R Arc)   ) ([] : List Arc), own b1 25 [.slice (⟨none, 0, (fun _ => ())⟩ : SR (GoRep.R Int)  ).a (([] : List Int).length) (⟨none, 0, (fun _ => ())⟩ : SR (GoRep.R Int)  ).cap, .slice (⟨none, 0, (fun _ => ())⟩ : SR (GoRep.R Arc)   ).a (([] : List Arc).length) (⟨none, 0, (fun _ => ())⟩ : SR (GoRep.R Arc)   ).cap], imm (α := (List Int)) r4.2 y2.l, trow 3 r11 lg_1_0, own b12 25 [.slice r11.a lg_1_0.length r11.cap, .slice rg_2_1.a lg_2_1.length rg_2_1.cap]] 21 ?_
      refine az_ev 0 rfl (ev_field_addr 1) ?_
      refine az_ev 1 rfl (ev_load_own (b := b12)) ?_
      refine az_ev 2 rfl ev_move ?_
      refine az_ev 3 rfl ev_move ?_
      obtain ⟨hI44, hM⟩ := chk_some hM
      refine az_ev 4 rfl (ev_add (hr := fun hg => i64b_I64 hI44)) ?_
      refine az_ev 5 rfl ev_move ?_
      refine az_ev 6 rfl ev_move ?_
      obtain ⟨hI45, hM⟩ := chk_some hM
      refine az_ev 7 rfl (ev_sub (hr := fun hg => i64b_I64 hI45)) ?_
      refine az_ev 10 rfl ev_move ?_
      refine az_ev 12 rfl ev_move ?_
      refine az_ev 14 rfl ev_move ?_
      obtain ⟨y46, hy47, hM⟩ := bind_some hM
      refine az_one 8 rfl (st_callF (by repeat (first | exact SelL.nil | (apply SelL.cons; · (repeat (first | exact Sel.head | apply Sel.tail))))) (fun S w hs hP => keep_Source_Next_spec _ w r4.1 (Keep_Source.mk y2.l y41.2) r4.2 ((2 + y5.1) - 1) y46 hy47 hP (Kn.lend (Kn.imm (α := List Int) (r := r4.2) (x := y2.l) (by repeat (first | exact Has.head | apply Has.tail))) hs)) (by intro r c hc; simp only [List.mem_cons, List.not_mem_nil, or_false] at hc; rcases hc with rfl <;> first | exact flatC_own | exact flatC_trow (fun _ _ _ _ => trivial)) (fun r48 => ⟨fun w hm => hm.sub (by repeat (first | exact List.Sublist.refl _ | apply List.Sublist.cons_cons | apply List.Sublist.cons)), ?_⟩))
      dsimp only [List.cons_append, List.nil_append]
      obtain ⟨hI49, hM⟩ := chk_some hM
      refine az_ev 9 rfl (ev_add (hr := fun hg => i64b_I64 hI49)) ?_
      obtain ⟨hI50, hM⟩ := chk_some hM
      refine az_ev 11 rfl (ev_rem (hq := fun hg => of_decide_eq_true hI50)) ?_
      obtain ⟨y51, hy52, hM⟩ := bind_some hM
      refine az_one 13 rfl (st_callF (by repeat (first | exact SelL.nil | (apply SelL.cons; · (repeat (first | exact Sel.head | apply Sel.tail))))) (fun S w hs hP => keep_Source_Next_spec _ w r4.1 (Keep_Source.mk y2.l y46.2) r4.2 3 y51 hy52 hP (Kn.lend (Kn.imm (α := List Int) (r := r4.2) (x := y2.l) (by repeat (first | exact Has.head | apply Has.tail))) hs)) (by intro r c hc; simp only [List.mem_cons, List.not_mem_nil, or_false] at hc; rcases hc with rfl <;> first | exact flatC_own | exact flatC_trow (fun _ _ _ _ => trivial)) (fun r53 => ⟨fun w hm => hm.sub (by repeat (first | exact List.Sublist.refl _ | apply List.Sublist.cons_cons | apply List.Sublist.cons)), ?_⟩))
      dsimp only [List.cons_append, List.nil_append]
      obtain ⟨y54, hy55, hM⟩ := bind_some hM
      refine az_one 15 rfl (st_callF (by repeat (first | exact SelL.nil | (apply SelL.cons; · (repeat (first | exact Sel.head | apply Sel.tail))))) (fun S w hs hP => keep_Source_Next_spec _ w r4.1 (Keep_Source.mk y2.l y51.2) r4.2 12 y54 hy55 hP (Kn.lend (Kn.imm (α := List Int) (r := r4.2) (x := y2.l) (by repeat (first | exact Has.head | apply Has.tail))) hs)) (by intro r c hc; simp only [List.mem_cons, List.not_mem_nil, or_false] at hc; rcases hc with rfl <;> first | exact flatC_own | exact flatC_trow (fun _ _ _ _ => trivial)) (fun r56 => ⟨fun w hm => hm.sub (by repeat (first | exact List.Sublist.refl _ | apply List.Sublist.cons_cons | apply List.Sublist.cons)), ?_⟩))
      dsimp only [List.cons_append, List.nil_append]
      obtain ⟨hI57, hM⟩ := chk_some hM
      refine az_ev 16 rfl (ev_sub (hr := fun hg => i64b_I64 hI57)) ?_
      refine az_ev 17 rfl (ev_build [.int .i64 y41.1, .int .i64 (((y41.1 + 1) + y46.1).tmod (2 + y5.1)), .int .i64 y51.1, .int .i64 (y54.1 - 4)]) ?_
      refine az_one 18 rfl (st_bslice (α := Arc) 40 (fun _ => ()) ([(Arc.mk y41.1 (((y41.1 + 1) + y46.1).tmod (2 + y5.1)) y51.1 (y54.1 - 4))] : List Arc) (OkL.flat (fun _ _ _ _ => trivial)) (fun r58 => ⟨fun w hm => hm.sub (by repeat (first | exact List.Sublist.refl _ | apply List.Sublist.cons_cons | apply List.Sublist.cons)), ?_⟩))
      obtain ⟨hb59, hM⟩ := chk_some hM
      refine az_one 19 rfl (st_append (r := rg_2_1) (r2 := r58) (by intro r'; repeat (first | exact Upd.head | apply Upd.tail)) (Kn.trow (e := 40) (r := r58) (by repeat (first | exact Has.head | apply Has.tail))) (OkL.flat (fun _ _ _ _ => trivial)) (of_decide_eq_true hb59) (fun r60 => ⟨fun w hm => hm.sub (by repeat (first | exact List.Sublist.refl _ | apply List.Sublist.cons_cons | apply List.Sublist.cons)), ?_⟩))
      refine az_ev 20 rfl (ev_field_addr 1) ?_
      refine az_last rfl (st_store_own (b := b12) (l' := [.slice r11.a lg_1_0.length r11.cap, .slice r60.a ((lg_2_1 ++ ([(Arc.mk y41.1 (((y41.1 + 1) + y46.1).tmod (2 + y5.1)) y51.1 (y54.1 - 4))] : List Arc)).length) r60.cap]) (k := ?_))
      refine az_done (hK16 _ _ ?_); clear hK16
      refine cw_region ?_
      refine ow_ev ev_move ?_
      obtain ⟨hI61, hM⟩ := chk_some hM
      refine ow_ev (ev_sub (hr := fun hg => i64b_I64 hI61)) ?_
      refine ow_ev ev_assign ?_
      refine ow_nil (hL2 (nn2, (y54.2, (lg_2_1 ++ ([(Arc.mk y41.1 (((y41.1 + 1) + y46.1).tmod (2 + y5.1)) y51.1 (y54.1 - 4))] : List Arc)), (k_2 - 1)), r60) _ _ (eqc hcont2 hM) (Nat.lt_succ_self _) ⟨rfl, rfl, rfl, rfl, rfl, trivial⟩ (fun w hm => hm.reord))
    ·
      replace hM := (ite_f hc40).symm.trans hM
      refine cw_exit (hK12 _ _ ?_); clear hK12
      dsimp only [keep2_Graph_k2] at hM
      refine cw_seq fun K18 hK18 => ?_
      refine cw_region ?_
      refine ow_ev (ev_load_all (b := b12)) ?_
      refine ow_cons (st_store_all (b := b1) (vs := [.slice r11.a lg_1_0.length r11.cap, .slice rg_2_1.a lg_2_1.length rg_2_1.cap]) (k := ?_))
      refine ow_nil (hK18 _ _ ?_); clear hK18
      obtain rfl := some_inj hM
      refine cw_ret (kw_retc1 (fun w hm => post_of (r11, rg_2_1) hm rfl))

def ref24_LeastFlow_k2 (i_2 : Nat) (lx_2 : List Int) (best_j1 : Int) (found_j1 : Bool) (cont1 : ((List Int) × Int × Bool) → Option (Int × Bool)) : Unit → Option (Int × Bool) := fun _ =>
  if decide ((i_2 : Int) = (lx_2.length : Int)) then
    (some (best_j1, found_j1))
  else
    ((idx lx_2 (i_2 : Int)).bind fun x14 =>
    chk (i64b (x14 + 1)) <|
    (idx lx_2 (i_2 : Int)).bind fun x17 =>
    cont1 ((lx_2.set (i_2 : Int).toNat (x14 + 1)), best_j1, found_j1))
def ref24_LeastFlow_b2 (g0 : Graph) (best_j1 : Int) (found_j1 : Bool) (cont1 : ((List Int) × Int × Bool) → Option (Int × Bool)) (cont2 : ((List Int) × Nat) → Option (Int × Bool)) : ((List Int) × Nat) → Option (Int × Bool) := fun (lx_2, i_2) =>
  (whn (decide ((i_2 : Int) < (lx_2.length : Int))) default (idx lx_2 (i_2 : Int))).bind fun x5 =>
  (whn (decide ((i_2 : Int) < (lx_2.length : Int))) default (idx g0.Arcs (i_2 : Int))).bind fun x7 =>
  if (decide ((i_2 : Int) < (lx_2.length : Int)) && decide (x5 = x7.Cap)) then
    ((idx lx_2 (i_2 : Int)).bind fun x10 =>
    chk (i64b ((i_2 : Int) + 1)) <|
    cont2 ((lx_2.set (i_2 : Int).toNat 0), i_2 + 1))
  else
    (ref24_LeastFlow_k2 i_2 lx_2 best_j1 found_j1 cont1 ())
def ref24_LeastFlow_k1 (g0 : Graph) (cont1 : ((List Int) × Int × Bool) → Option (Int × Bool)) (lx_1 : List Int) : (Int × Bool) → Option (Int × Bool) := fun (best_j1, found_j1) =>
  iter (ref24_LeastFlow_b2 g0 best_j1 found_j1 cont1) FUEL (lx_1, 0)
def ref24_LeastFlow_b1 (g0 : Graph) (cont1 : ((List Int) × Int × Bool) → Option (Int × Bool)) : ((List Int) × Int × Bool) → Option (Int × Bool) := fun (lx_1, best_1, found_1) =>
  (ref24_FeasibleFlow_m g0 lx_1).bind fun y19 =>
  if y19 then
    ((ref24_FlowCost_m g0 lx_1).bind fun y22 =>
    if ((!found_1) || decide (y22 < best_1)) then
      (ref24_LeastFlow_k1 g0 cont1 lx_1 (y22, true))
    else
      (ref24_LeastFlow_k1 g0 cont1 lx_1 (best_1, found_1)))
  else
    (ref24_LeastFlow_k1 g0 cont1 lx_1 (best_1, found_1))
def ref24_LeastFlow_m (g0 : Graph) : Option (Int × Bool) :=
  (mk (α := Int) 0 (g0.Arcs.length : Int)).bind fun m2 =>
  iter (ref24_LeastFlow_b1 g0) FUEL (m2, 0, false)
theorem ref24_LeastFlow_spec (S : Soup) (w : World) (g0 : Graph) (r_g0 : GoRep.R Graph) (y : Int × Bool) (hM : ref24_LeastFlow_m g0 = some y) (hS : ∀ k, S k → k < w.heap.size) (h_g0 : GoRep.ok S w r_g0 g0) :
    Calls Try.prog 22 #[.agg #[.slice r_g0.1.a g0.Supply.length r_g0.1.cap, .slice r_g0.2.a g0.Arcs.length r_g0.2.cap]] w (Ret w (.tuple #[.int .i64 y.1, .bool y.2])) := by
  refine calls_cw (args := [_]) Try.func22 rfl ((pre_nil hS).start |>.immP (α := List Int) (r := r_g0.1) (x := g0.Supply) h_g0.1|>.immP (α := List Arc) (r := r_g0.2) (x := g0.Arcs) h_g0.2) rfl ?_
  unfold ref24_LeastFlow_m at hM
  refine cw_seq fun K1 hK1 => ?_
  refine cw_region ?_
  refine ow_cons (st_box (l := [.slice r_g0.1.a g0.Supply.length r_g0.1.cap, .slice r_g0.2.a g0.Arcs.length r_g0.2.cap]) (k := fun b1 => ?_))
  refine ow_ev ev_assign ?_
  refine ow_ev ev_assign ?_
  refine ow_nil (hK1 _ _ ?_); clear hK1
  refine cw_seq fun K2 hK2 => ?_
  refine cw_region ?_
  refine ow_ev (ev_field_addr 1) ?_
  refine ow_ev (ev_load_own (b := b1)) ?_
  refine ow_ev ev_len ?_
  obtain ⟨m2, hm3, hM⟩ := bind_some hM
  refine ow_cons (st_make (α := Int) (e := 3) 0 () hm3 (fun _ _ => trivial) (fun r4 hr4 => ?_))
  refine ow_ev ev_assign ?_
  refine ow_nil (hK2 _ _ ?_); clear hK2
  refine cw_seq fun K3 hK3 => ?_
  refine cw_region ?_
  refine ow_ev ev_assign ?_
  refine ow_ev ev_assign ?_
  refine ow_nil (hK3 _ _ ?_); clear hK3
  refine cw_block ?_
  refine cw_loop (γ := Nat × ((List Int) × Int × Bool) × Unit) (env := fun (_, (lx_1, best_1, found_1), _) => [(1, .v (.pointer (some ⟨b1, 0, none⟩))), (4, .v (.slice r4.a lx_1.length r4.cap)), (5, .v (.int .i64 best_1)), (6, .v (.bool found_1))]) (mem := fun (_, (lx_1, best_1, found_1), _) => [imm (α := (List Int)) r_g0.1 g0.Supply, imm (α := (List Arc)) r_g0.2 g0.Arcs, own b1 25 [.slice r_g0.1.a g0.Supply.length r_g0.1.cap, .slice r_g0.2.a g0.Arcs.length r_g0.2.cap], trow 3 r4 lx_1]) (R := fun g => iter (ref24_LeastFlow_b1 g0) g.1 g.2.1 = some y) (μ := fun g => g.1) (FUEL, (m2, 0, false), ()) hM ⟨rfl, rfl, rfl, rfl, trivial⟩ (fun w hm => hm.reord) ?_
  clear hM
  intro g hM KL1 hL1
  obtain ⟨nn1, ⟨lx_1, best_1, found_1⟩, ⟨⟩⟩ := g
  dsimp only at hM ⊢
  obtain ⟨nn1, cont1, rfl, hcont1, hM⟩ := iter_open' hM
  dsimp only [ref24_LeastFlow_b1] at hM
  refine cw_block ?_
  refine cw_cut (γ := (Int × Bool) × Unit) (env := fun ((best_j1, found_j1), _) => [(1, .v (.pointer (some ⟨b1, 0, none⟩))), (4, .v (.slice r4.a lx_1.length r4.cap)), (5, .v (.int .i64 best_j1)), (6, .v (.bool found_j1))]) (mem := fun ((best_j1, found_j1), _) => [imm (α := (List Int)) r_g0.1 g0.Supply, imm (α := (List Arc)) r_g0.2 g0.Arcs, own b1 25 [.slice r_g0.1.a g0.Supply.length r_g0.1.cap, .slice r_g0.2.a g0.Arcs.length r_g0.2.cap], trow 3 r4 lx_1]) (R := fun g => ref24_LeastFlow_k1 g0 cont1 lx_1 g.1 = some y) ?_ ?_
  · intro KJ1 hJ1
    refine cw_seq fun K12 hK12 => ?_
    refine cw_region ?_
    refine ow_ev (ev_load_all (b := b1)) ?_
    refine ow_ev ev_move ?_
    obtain ⟨y19, hy20, hM⟩ := bind_some hM
    refine ow_cons (st_callv (fun w hm => let ⟨S, hs⟩ := hm; ref24_FeasibleFlow_spec _ w g0 r_g0 lx_1 r4 y19 hy20 (lend_lt hs) ⟨(Kn.lend (Kn.imm (α := List Int) (r := r_g0.1) (x := g0.Supply) (by repeat (first | exact Has.head | apply Has.tail))) hs), (Kn.lend (Kn.imm (α := List Arc) (r := r_g0.2) (x := g0.Arcs) (by repeat (first | exact Has.head | apply Has.tail))) hs)⟩ (Kn.lend (Kn.trow (e := 3) (r := r4) (by repeat (first | exact Has.head | apply Has.tail))) hs)) ?_)
    refine ow_nil (hK12 _ _ ?_); clear hK12
    refine cw_cond rfl (fun hc21 => ?_) (fun hc21 => ?_)
    ·
      replace hM := (ite_t hc21).symm.trans hM
      refine cw_seq fun K13 hK13 => ?_
      refine cw_region ?_
      refine ow_ev (ev_load_all (b := b1)) ?_
      refine ow_ev ev_move ?_
      obtain ⟨y22, hy23, hM⟩ := bind_some hM
      refine ow_cons (st_callv (fun w hm => let ⟨S, hs⟩ := hm; ref24_FlowCost_spec _ w g0 r_g0 lx_1 r4 y22 hy23 (lend_lt hs) ⟨(Kn.lend (Kn.imm (α := List Int) (r := r_g0.1) (x := g0.Supply) (by repeat (first | exact Has.head | apply Has.tail))) hs), (Kn.lend (Kn.imm (α := List Arc) (r := r_g0.2) (x := g0.Arcs) (by repeat (first | exact Has.head | apply Has.tail))) hs)⟩ (Kn.lend (Kn.trow (e := 3) (r := r4) (by repeat (first | exact Has.head | apply Has.tail))) hs)) ?_)
      refine ow_ev ev_assign ?_
      refine ow_nil (hK13 _ _ ?_); clear hK13
      refine cw_seq fun K14 hK14 => ?_
      refine cw_region ?_
      refine ow_ev ev_move ?_
      refine ow_ev ev_not ?_
      refine ow_ev ev_move ?_
      refine ow_evg rfl ev_move ?_
      refine ow_evg rfl ev_move ?_
      refine ow_evg rfl ev_lss ?_
      refine ow_ev ev_or ?_
      refine ow_nil (hK14 _ _ ?_); clear hK14
      refine cw_cond rfl (fun hc24 => ?_) (fun hc24 => ?_)
      ·
        replace hM := (ite_t hc24).symm.trans hM
        refine cw_region ?_
        refine ow_ev ev_move ?_
        refine ow_ev ev_assign ?_
        refine ow_ev ev_assign ?_
        refine ow_nil (hJ1 ((y22, true), ()) _ _ hM ⟨rfl, rfl, rfl, rfl, trivial⟩ (fun w hm => hm.reord))
      ·
        replace hM := (ite_f hc24).symm.trans hM
        refine cw_skip (hJ1 ((best_1, found_1), ()) _ _ hM ⟨rfl, rfl, rfl, rfl, trivial⟩ (fun w hm => hm.reord))
    ·
      replace hM := (ite_f hc21).symm.trans hM
      refine cw_skip (hJ1 ((best_1, found_1), ()) _ _ hM ⟨rfl, rfl, rfl, rfl, trivial⟩ (fun w hm => hm.reord))
  ·
    clear hM
    intro g hM
    obtain ⟨⟨best_j1, found_j1⟩, ⟨⟩⟩ := g
    dsimp only at hM ⊢
    dsimp only [ref24_LeastFlow_k1] at hM
    refine cw_seq fun K4 hK4 => ?_
    refine cw_region ?_
    refine ow_ev ev_assign ?_
    refine ow_nil (hK4 _ _ ?_); clear hK4
    refine cw_seq fun K5 hK5 => ?_
    refine cw_block ?_
    refine cw_loop (γ := Nat × ((List Int) × Nat) × Unit) (env := fun (_, (lx_2, i_2), _) => [(1, .v (.pointer (some ⟨b1, 0, none⟩))), (4, .v (.slice r4.a lx_2.length r4.cap)), (5, .v (.int .i64 best_j1)), (6, .v (.bool found_j1)), (8, .v (.int .i64 (i_2 : Int)))]) (mem := fun (_, (lx_2, i_2), _) => [imm (α := (List Int)) r_g0.1 g0.Supply, imm (α := (List Arc)) r_g0.2 g0.Arcs, own b1 25 [.slice r_g0.1.a g0.Supply.length r_g0.1.cap, .slice r_g0.2.a g0.Arcs.length r_g0.2.cap], trow 3 r4 lx_2]) (R := fun g => iter (ref24_LeastFlow_b2 g0 best_j1 found_j1 cont1) g.1 g.2.1 = some y) (μ := fun g => g.1) (FUEL, (lx_1, 0), ()) hM ⟨rfl, rfl, rfl, rfl, rfl, trivial⟩ (fun w hm => hm.reord) ?_
    clear hM
    intro g hM KL2 hL2
    obtain ⟨nn2, ⟨lx_2, i_2⟩, ⟨⟩⟩ := g
    dsimp only at hM ⊢
    obtain ⟨nn2, cont2, rfl, hcont2, hM⟩ := iter_open' hM
    dsimp only [ref24_LeastFlow_b2] at hM
    refine cw_seq fun K6 hK6 => ?_
    refine cw_seq fun K7 hK7 => ?_
    refine cw_region_any _ (List.Sublist.refl _) ?_
    refine aw_ev 0 rfl ev_move ?_
    refine aw_ev 1 rfl ev_move ?_
    refine aw_ev 2 rfl ev_len ?_
    refine aw_ev 3 rfl ev_lss ?_
    refine aw_ev 4 rfl ev_move ?_
    refine aw_evg 5 rfl rfl ev_move ?_
    refine aw_evg 6 rfl rfl ev_move ?_
    obtain ⟨x5, hx6, hM⟩ := bind_some hM
    refine aw_evg 7 rfl rfl (ev_idx (xs := lx_2) 1 (Kn.trow (e := 3) (r := r4) (by repeat (first | exact Has.head | apply Has.tail))) (fun hg => let h := idx_some (whn_some hx6 hg); ⟨h.1, h.2.1⟩)) ?_
    refine aw_evg 8 rfl rfl (ev_ld (i := (i_2 : Int)) (xs := lx_2) (y := x5) 0 (Kn.trow (e := 3) (r := r4) (by repeat (first | exact Has.head | apply Has.tail))) (fun hg => whn_some hx6 hg)) ?_
    refine aw_evg 9 rfl rfl (ev_field_addr 1) ?_
    refine aw_evg 10 rfl rfl (ev_load_own (b := b1)) ?_
    refine aw_evg 11 rfl rfl ev_move ?_
    obtain ⟨x7, hx8, hM⟩ := bind_some hM
    refine aw_evg 12 rfl rfl (ev_idx (xs := g0.Arcs) 4 (Kn.imm (α := List Arc) (r := r_g0.2) (x := g0.Arcs) (by repeat (first | exact Has.head | apply Has.tail))) (fun hg => let h := idx_some (whn_some hx8 hg); ⟨h.1, h.2.1⟩)) ?_
    refine aw_evg 13 rfl rfl (ev_field_addr 2) ?_
    refine aw_evg 14 rfl rfl (ev_ld (i := (i_2 : Int)) (xs := g0.Arcs) (y := x7) 2 (Kn.imm (α := List Arc) (r := r_g0.2) (x := g0.Arcs) (by repeat (first | exact Has.head | apply Has.tail))) (fun hg => whn_some hx8 hg)) ?_
    refine aw_evg 15 rfl rfl ev_eql ?_
    refine aw_ev 16 rfl ev_and ?_
    refine aw_done (hK7 _ _ ?_); clear hK7
    refine cw_cond rfl (fun hc9 => ?_) (fun hc9 => ?_)
    ·
      replace hM := (ite_t hc9).symm.trans hM
      refine cw_skip (hK6 _ _ ?_); clear hK6
      refine cw_block ?_
      refine cw_seq fun K8 hK8 => ?_
      refine cw_region ?_
      refine ow_ev ev_move ?_
      refine ow_ev ev_move ?_
      obtain ⟨x10, hx11, hM⟩ := bind_some hM
      refine ow_ev (ev_idx (xs := lx_2) 1 (Kn.trow (e := 3) (r := r4) (by repeat (first | exact Has.head | apply Has.tail))) (fun hg => let h := idx_some hx11; ⟨h.1, h.2.1⟩)) ?_
      refine ow_cons (st_set (r := r4) (i := (i_2 : Int)) (xs := lx_2) (u := x10) (vs := [.int .i64 0]) 0 0 hx11 rfl (fun _ _ h => h) (by repeat (first | exact Upd.head | apply Upd.tail)) ?_)
      refine ow_nil (hK8 _ _ ?_); clear hK8
      refine cw_region ?_
      refine ow_ev ev_move ?_
      obtain ⟨hI12, hM⟩ := chk_some hM
      refine ow_ev (ev_add (hr := fun hg => i64b_I64 hI12)) ?_
      refine ow_ev ev_assign ?_
      refine ow_nil (hL2 (nn2, ((lx_2.set (i_2 : Int).toNat 0), i_2 + 1), ()) _ _ (eqc hcont2 hM) (Nat.lt_succ_self _) ⟨rfl, (by simp only [List.length_set]; rfl), rfl, rfl, rfl, trivial⟩ (fun w hm => hm.reord))
    ·
      replace hM := (ite_f hc9).symm.trans hM
      refine cw_exit (hK5 _ _ ?_); clear hK5
      dsimp only [ref24_LeastFlow_k2] at hM
      refine cw_seq fun K9 hK9 => ?_
      refine cw_seq fun K10 hK10 => ?_
      refine cw_region ?_
      refine ow_ev ev_move ?_
      refine ow_ev ev_move ?_
      refine ow_ev ev_len ?_
      refine ow_ev ev_eql ?_
      refine ow_nil (hK10 _ _ ?_); clear hK10
      refine cw_cond rfl (fun hc13 => ?_) (fun hc13 => ?_)
      ·
        replace hM := (ite_t hc13).symm.trans hM
        refine cw_seq fun K11 hK11 => ?_
        refine cw_region ?_
        refine ow_ev ev_move ?_
        refine ow_ev ev_move ?_
        refine ow_ev ev_assign ?_
        refine ow_ev ev_assign ?_
        refine ow_nil (hK11 _ _ ?_); clear hK11
        obtain rfl := some_inj hM
        refine cw_ret (kw_retc2 (fun w hm => ret_of hm rfl))
      ·
        replace hM := (ite_f hc13).symm.trans hM
        refine cw_skip (hK9 _ _ ?_); clear hK9
        refine cw_region ?_
        refine ow_ev ev_move ?_
        refine ow_ev ev_move ?_
        obtain ⟨x14, hx15, hM⟩ := bind_some hM
        refine ow_ev (ev_idx (xs := lx_2) 1 (Kn.trow (e := 3) (r := r4) (by repeat (first | exact Has.head | apply Has.tail))) (fun hg => let h := idx_some hx15; ⟨h.1, h.2.1⟩)) ?_
        refine ow_ev (ev_ld (i := (i_2 : Int)) (xs := lx_2) (y := x14) 0 (Kn.trow (e := 3) (r := r4) (by repeat (first | exact Has.head | apply Has.tail))) (fun _ => hx15)) ?_
        obtain ⟨hI16, hM⟩ := chk_some hM
        refine ow_ev (ev_add (hr := fun hg => i64b_I64 hI16)) ?_
        obtain ⟨x17, hx18, hM⟩ := bind_some hM
        refine ow_ev (ev_idx (xs := lx_2) 1 (Kn.trow (e := 3) (r := r4) (by repeat (first | exact Has.head | apply Has.tail))) (fun hg => let h := idx_some hx18; ⟨h.1, h.2.1⟩)) ?_
        refine ow_cons (st_set (r := r4) (i := (i_2 : Int)) (xs := lx_2) (u := x17) (vs := [.int .i64 (x14 + 1)]) 0 (x14 + 1) hx18 rfl (fun _ _ h => h) (by repeat (first | exact Upd.head | apply Upd.tail)) ?_)
        refine ow_nil (hL1 (nn1, ((lx_2.set (i_2 : Int).toNat (x14 + 1)), best_j1, found_j1), ()) _ _ (eqc hcont1 hM) (Nat.lt_succ_self _) ⟨rfl, (by simp only [List.length_set]; rfl), rfl, rfl, trivial⟩ (fun w hm => hm.reord))

end Go.Proofs.Ytedocibniankjaa

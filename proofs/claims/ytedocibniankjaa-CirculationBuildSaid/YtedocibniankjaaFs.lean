/- Models of functions, and that the code computes them. -/
import Derived.Test.YtedocibniankjaaFd
namespace Go.Proofs.Ytedocibniankjaa
open Go.Dc Go.RowKit
set_option maxRecDepth 10000
set_option linter.unusedVariables false
def flow_Solve_k1 (lf_1_0 : List Int) (y19 : (List Int)) (f_1_2 : Int) : Unit → Option (Flow × Int) := fun _ =>
  some ((Flow.mk lf_1_0 y19 f_1_2), 0)
def flow_Solve_b1 (g0 : Graph) (y11 : (List Int) × (List Int) × (List Int)) (y19 : (List Int)) (cont1 : ((List Int) × Int × Nat) → Option (Flow × Int)) : ((List Int) × Int × Nat) → Option (Flow × Int) := fun (lf_1_0, f_1_2, t27_1) =>
  if decide ((t27_1 : Int) < (g0.Arcs.length : Int)) then
    ((idx g0.Arcs (t27_1 : Int)).bind fun x28 =>
    chk (i64b (2 * (t27_1 : Int))) <|
    chk (i64b ((2 * (t27_1 : Int)) + 1)) <|
    (idx y11.1 ((2 * (t27_1 : Int)) + 1)).bind fun x33 =>
    chk (decide ((lf_1_0.length + ([x33] : List Int).length) * 8 ≤ 140737488355328)) <|
    chk (i64b (x33 * x28.Cost)) <|
    chk (i64b (f_1_2 + (x33 * x28.Cost))) <|
    cont1 ((lf_1_0 ++ ([x33] : List Int)), (f_1_2 + (x33 * x28.Cost)), t27_1 + 1))
  else
    (flow_Solve_k1 lf_1_0 y19 f_1_2 ())
def flow_Solve_m (g0 : Graph) : Option (Flow × Int) :=
  (flow_Check_m g0).bind fun y3 =>
  if (!y3) then
    (some ((Flow.mk ([] : List Int) ([] : List Int) 0), 1))
  else
    ((flow_newResidual_m g0).bind fun y8 =>
    (flow_residual_solve_m y8).bind fun y11 =>
    (flow_residual_feasible_m (Flow_residual.mk y8.nodes y8.arcs y8.to y11.1 y8.cost y8.from_ y11.2.1 y11.2.2)).bind fun y14 =>
    if (!y14) then
      (some ((Flow.mk ([] : List Int) ([] : List Int) 0), 14))
    else
      ((flow_residual_prices_m (Flow_residual.mk y8.nodes y8.arcs y8.to y11.1 y8.cost y8.from_ y11.2.1 y11.2.2)).bind fun y19 =>
      iter (flow_Solve_b1 g0 y11 y19) FUEL (([] : List Int), 0, 0)))
theorem flow_Solve_spec (S : Soup) (w : World) (g0 : Graph) (r_g0 : GoRep.R Graph) (y : Flow × Int) (hM : flow_Solve_m g0 = some y) (hS : ∀ k, S k → k < w.heap.size) (h_g0 : GoRep.ok S w r_g0 g0) :
    Calls Try.prog 21 #[.agg #[.slice r_g0.1.a g0.Supply.length r_g0.1.cap, .slice r_g0.2.a g0.Arcs.length r_g0.2.cap]] w (Post (β := (GoRep.R Flow)) S [] (fun g => .tuple #[.agg #[.slice g.1.a y.1.X.length g.1.cap, .slice g.2.a y.1.Price.length g.2.cap, .int .i64 y.1.Cost], .int .i64 y.2]) (fun g => [trow 3 g.1 y.1.X, trow 3 g.2 y.1.Price]) w) := by
  refine calls_cw (args := [_]) Try.func21 rfl ((pre_nil hS).start |>.immP (α := List Int) (r := r_g0.1) (x := g0.Supply) h_g0.1|>.immP (α := List Arc) (r := r_g0.2) (x := g0.Arcs) h_g0.2) rfl ?_
  unfold flow_Solve_m at hM
  refine cw_seq fun K1 hK1 => ?_
  refine cw_region ?_
  refine ow_cons (st_box (l := [.slice r_g0.1.a g0.Supply.length r_g0.1.cap, .slice r_g0.2.a g0.Arcs.length r_g0.2.cap]) (k := fun b1 => ?_))
  refine ow_cons (st_alloc rfl (k := fun b2 => ?_))
  refine ow_ev ev_assign ?_
  refine ow_nil (hK1 _ _ ?_); clear hK1
  refine cw_seq fun K2 hK2 => ?_
  refine cw_seq fun K3 hK3 => ?_
  refine cw_region ?_
  refine ow_ev (ev_load_all (b := b1)) ?_
  obtain ⟨y3, hy4, hM⟩ := bind_some hM
  refine ow_cons (st_callv (fun w hm => let ⟨S, hs⟩ := hm; flow_Check_spec _ w g0 r_g0 y3 hy4 (lend_lt hs) ⟨(Kn.lend (Kn.imm (α := List Int) (r := r_g0.1) (x := g0.Supply) (by repeat (first | exact Has.head | apply Has.tail))) hs), (Kn.lend (Kn.imm (α := List Arc) (r := r_g0.2) (x := g0.Arcs) (by repeat (first | exact Has.head | apply Has.tail))) hs)⟩) ?_)
  refine ow_ev ev_not ?_
  refine ow_nil (hK3 _ _ ?_); clear hK3
  refine cw_cond rfl (fun hc5 => ?_) (fun hc5 => ?_)
  ·
    replace hM := (ite_t hc5).symm.trans hM
    refine cw_seq fun K4 hK4 => ?_
    refine cw_region ?_
    refine ow_ev (ev_build [.slice none 0 0, .slice none 0 0, .int .i64 0]) ?_
    refine ow_cons (st_store_all (b := b2) (vs := [.slice none 0 0, .slice none 0 0, .int .i64 0]) (k := ?_))
    refine ow_ev ev_assign ?_
    refine ow_nil (hK4 _ _ ?_); clear hK4
    refine cw_imp (fun w hm => hm.row_nil (α := Int) 3 (fun _ => ())) ?_
    refine cw_imp (fun w hm => hm.row_nil (α := Int) 3 (fun _ => ())) ?_
    obtain rfl := some_inj hM
    refine cw_ret (kw_retc2 (fun w hm => post_of ((⟨none, 0, (fun _ => ())⟩ : SR (GoRep.R Int) ), (⟨none, 0, (fun _ => ())⟩ : SR (GoRep.R Int)  )) hm rfl))
  ·
    replace hM := (ite_f hc5).symm.trans hM
    refine cw_skip (hK2 _ _ ?_); clear hK2
    refine cw_seq fun K5 hK5 => ?_
    refine cw_region ?_
    refine ow_ev (ev_load_all (b := b1)) ?_
    obtain ⟨y8, hy9, hM⟩ := bind_some hM
    refine ow_cons (st_callS SelL.nil (fun S w hs hP => flow_newResidual_spec _ w g0 r_g0 y8 hy9 hs.lt ⟨((Sk.imm (α := List Int) (r := r_g0.1) (x := g0.Supply) (by repeat (first | exact Has.head | apply Has.tail))) S w hs), ((Sk.imm (α := List Arc) (r := r_g0.2) (x := g0.Arcs) (by repeat (first | exact Has.head | apply Has.tail))) S w hs)⟩)  (fun r10 => ?_))
    dsimp only [List.cons_append, List.nil_append]
    refine ow_ev ev_assign ?_
    refine ow_nil (hK5 _ _ ?_); clear hK5
    refine cw_seq fun K6 hK6 => ?_
    refine cw_region ?_
    refine ow_ev ev_move ?_
    obtain ⟨y11, hy12, hM⟩ := bind_some hM
    refine ow_cons (st_callS (by repeat (first | exact SelL.nil | (apply SelL.cons; · (repeat (first | exact Sel.head | apply Sel.tail))))) (fun S w hs hP => flow_residual_solve_spec _ w r10.1 y8 r10.2 y11 hy12 hP )  (fun r13 => ?_))
    dsimp only [List.cons_append, List.nil_append]
    refine ow_nil (hK6 _ _ ?_); clear hK6
    refine cw_seq fun K7 hK7 => ?_
    refine cw_seq fun K8 hK8 => ?_
    refine cw_region ?_
    refine ow_ev ev_move ?_
    obtain ⟨y14, hy15, hM⟩ := bind_some hM
    refine ow_cons (st_callv (fun w hm => let ⟨S, hs⟩ := hm; flow_residual_feasible_spec _ w r10.1 (Flow_residual.mk y8.nodes y8.arcs y8.to y11.1 y8.cost y8.from_ y11.2.1 y11.2.2) (r10.2.1, r13.1, r10.2.2.2.1, r10.2.2.2.2.1, r13.2.1, r13.2.2) y14 hy15 (lend_lt hs) (own_lend (by repeat (first | exact Has.head | apply Has.tail)) hs) ⟨(Kn.lend (Kn.trow (e := 3) (r := r10.2.1) (by repeat (first | exact Has.head | apply Has.tail))) hs), (Kn.lend (Kn.trow (e := 3) (r := r13.1) (by repeat (first | exact Has.head | apply Has.tail))) hs), (Kn.lend (Kn.trow (e := 3) (r := r10.2.2.2.1) (by repeat (first | exact Has.head | apply Has.tail))) hs), (Kn.lend (Kn.trow2 (e := 22) (r := r10.2.2.2.2.1) (by repeat (first | exact Has.head | apply Has.tail))) hs), (Kn.lend (Kn.trow (e := 3) (r := r13.2.1) (by repeat (first | exact Has.head | apply Has.tail))) hs), (Kn.lend (Kn.trow (e := 3) (r := r13.2.2) (by repeat (first | exact Has.head | apply Has.tail))) hs)⟩) ?_)
    refine ow_ev ev_not ?_
    refine ow_nil (hK8 _ _ ?_); clear hK8
    refine cw_cond rfl (fun hc16 => ?_) (fun hc16 => ?_)
    ·
      replace hM := (ite_t hc16).symm.trans hM
      refine cw_seq fun K9 hK9 => ?_
      refine cw_region ?_
      refine ow_ev (ev_build [.slice none 0 0, .slice none 0 0, .int .i64 0]) ?_
      refine ow_cons (st_store_all (b := b2) (vs := [.slice none 0 0, .slice none 0 0, .int .i64 0]) (k := ?_))
      refine ow_ev ev_assign ?_
      refine ow_nil (hK9 _ _ ?_); clear hK9
      refine cw_imp (fun w hm => hm.row_nil (α := Int) 3 (fun _ => ())) ?_
      refine cw_imp (fun w hm => hm.row_nil (α := Int) 3 (fun _ => ())) ?_
      obtain rfl := some_inj hM
      refine cw_ret (kw_retc2 (fun w hm => post_of ((⟨none, 0, (fun _ => ())⟩ : SR (GoRep.R Int)   ), (⟨none, 0, (fun _ => ())⟩ : SR (GoRep.R Int)    )) hm rfl))
    ·
      replace hM := (ite_f hc16).symm.trans hM
      refine cw_skip (hK7 _ _ ?_); clear hK7
      refine cw_seq fun K10 hK10 => ?_
      refine cw_region ?_
      refine ow_ev ev_move ?_
      obtain ⟨y19, hy20, hM⟩ := bind_some hM
      refine ow_cons (st_callF SelL.nil (fun S w hs hP => flow_residual_prices_spec _ w r10.1 (Flow_residual.mk y8.nodes y8.arcs y8.to y11.1 y8.cost y8.from_ y11.2.1 y11.2.2) (r10.2.1, r13.1, r10.2.2.2.1, r10.2.2.2.2.1, r13.2.1, r13.2.2) y19 hy20 (lend_lt hs) (own_lend (by repeat (first | exact Has.head | apply Has.tail)) hs) ⟨(Kn.lend (Kn.trow (e := 3) (r := r10.2.1) (by repeat (first | exact Has.head | apply Has.tail))) hs), (Kn.lend (Kn.trow (e := 3) (r := r13.1) (by repeat (first | exact Has.head | apply Has.tail))) hs), (Kn.lend (Kn.trow (e := 3) (r := r10.2.2.2.1) (by repeat (first | exact Has.head | apply Has.tail))) hs), (Kn.lend (Kn.trow2 (e := 22) (r := r10.2.2.2.2.1) (by repeat (first | exact Has.head | apply Has.tail))) hs), (Kn.lend (Kn.trow (e := 3) (r := r13.2.1) (by repeat (first | exact Has.head | apply Has.tail))) hs), (Kn.lend (Kn.trow (e := 3) (r := r13.2.2) (by repeat (first | exact Has.head | apply Has.tail))) hs)⟩) (by intro r c hc; simp only [List.mem_cons, List.not_mem_nil, or_false] at hc; rcases hc with rfl <;> first | exact flatC_own | exact flatC_trow (fun _ _ _ _ => trivial)) (fun r21 => ?_))
      dsimp only [List.cons_append, List.nil_append]
      refine ow_ev (ev_build [.slice none 0 0, .slice r21.a y19.length r21.cap, .int .i64 0]) ?_
      refine ow_cons (st_alloc rfl (k := fun b22 => ?_))
      refine ow_cons (st_store_all (b := b22) (vs := [.slice none 0 0, .slice r21.a y19.length r21.cap, .int .i64 0]) (k := ?_))
      refine ow_nil (hK10 _ _ ?_); clear hK10
      refine cw_seq fun K11 hK11 => ?_
      refine cw_seq fun K12 hK12 => ?_
      refine cw_region ?_
      refine ow_ev (ev_field_addr 1) ?_
      refine ow_ev (ev_load_own (b := b1)) ?_
      refine ow_have (fun w hm => Kn.len (Kn.imm (α := List Arc) (r := r_g0.2) (x := g0.Arcs) (by repeat (first | exact Has.head | apply Has.tail))) hm) fun hl23 => ?_
      refine ow_ev ev_len ?_
      refine ow_ev ev_move ?_
      refine ow_nil (hK12 _ _ ?_); clear hK12
      refine cw_block ?_
      refine cw_imp (fun w hm => hm.row_nil (α := Int) 3 (fun _ => ())) ?_
      refine cw_imp (fun w hm => hm.row_nil (α := Int) 3 (fun _ => ())) ?_
      refine cw_imp (fun w hm => hm.row_nil (α := Int) 3 (fun _ => ())) ?_
      refine cw_loop (γ := Nat × ((List Int) × Int × Nat) × (SR (GoRep.R Int))) (env := fun (_, (lf_1_0, f_1_2, t27_1), rf_1_0) => [(2, .v (.pointer (some ⟨b2, 0, none⟩))), (4, .v (.pointer (some ⟨r10.1, 0, none⟩))), (5, .v (.pointer (some ⟨b22, 0, none⟩))), (25, .v (.slice r_g0.2.a g0.Arcs.length r_g0.2.cap)), (26, .v (.int .i64 (g0.Arcs.length : Int))), (27, .v (.int .i64 (t27_1 : Int)))]) (mem := fun (_, (lf_1_0, f_1_2, t27_1), rf_1_0) => [trow 3 (⟨none, 0, (fun _ => ())⟩ : SR (GoRep.R Int)      ) ([] : List Int), trow 3 (⟨none, 0, (fun _ => ())⟩ : SR (GoRep.R Int)       ) ([] : List Int), own b2 28 [.slice (⟨none, 0, (fun _ => ())⟩ : SR (GoRep.R Int)      ).a (([] : List Int).length) (⟨none, 0, (fun _ => ())⟩ : SR (GoRep.R Int)      ).cap, .slice (⟨none, 0, (fun _ => ())⟩ : SR (GoRep.R Int)       ).a (([] : List Int).length) (⟨none, 0, (fun _ => ())⟩ : SR (GoRep.R Int)       ).cap, .int .i64 0], trow 3 r10.2.1 y8.to, trow 3 r13.1 y11.1, trow 3 r10.2.2.2.1 y8.cost, rows2 (fun _ => True) 22 3 r10.2.2.2.2.1 y8.from_, trow 3 r13.2.1 y11.2.1, trow 3 r13.2.2 y11.2.2, own r10.1 91 [.int .i64 y8.nodes, .int .i64 y8.arcs, .slice r10.2.1.a y8.to.length r10.2.1.cap, .slice r13.1.a y11.1.length r13.1.cap, .slice r10.2.2.2.1.a y8.cost.length r10.2.2.2.1.cap, .slice r10.2.2.2.2.1.a y8.from_.length r10.2.2.2.2.1.cap, .slice r13.2.1.a y11.2.1.length r13.2.1.cap, .slice r13.2.2.a y11.2.2.length r13.2.2.cap], trow 3 rf_1_0 lf_1_0, trow 3 r21 y19, own b22 28 [.slice rf_1_0.a lf_1_0.length rf_1_0.cap, .slice r21.a y19.length r21.cap, .int .i64 f_1_2], imm (α := (List Arc)) r_g0.2 g0.Arcs]) (R := fun g => iter (flow_Solve_b1 g0 y11 y19) g.1 g.2.1 = some y) (μ := fun g => g.1) (FUEL, (([] : List Int), 0, 0), (⟨none, 0, (fun _ => ())⟩ : SR (GoRep.R Int)     )) hM ⟨rfl, rfl, rfl, rfl, rfl, rfl, trivial⟩ (fun w hm => hm.reord) ?_
      clear hM
      intro g hM KL1 hL1
      obtain ⟨nn1, ⟨lf_1_0, f_1_2, t27_1⟩, rf_1_0⟩ := g
      dsimp only at hM ⊢
      obtain ⟨nn1, cont1, rfl, hcont1, hM⟩ := iter_open' hM
      dsimp only [flow_Solve_b1] at hM
      refine cw_seq fun K13 hK13 => ?_
      refine cw_region ?_
      refine ow_ev ev_lss ?_
      refine ow_nil (hK13 _ _ ?_); clear hK13
      refine cw_seq fun K14 hK14 => ?_
      refine cw_cond rfl (fun hc27 => ?_) (fun hc27 => ?_)
      ·
        replace hM := (ite_t hc27).symm.trans hM
        have hc27d := of_decide_eq_true hc27
        refine cw_skip (hK14 _ _ ?_); clear hK14
        refine cw_seq fun K15 hK15 => ?_
        refine cw_block ?_
        refine cw_seq fun K16 hK16 => ?_
        refine cw_region ?_
        refine ow_ev ev_move ?_
        obtain ⟨x28, hx29, hM⟩ := bind_some hM
        refine ow_ev (ev_idx (xs := g0.Arcs) 4 (Kn.imm (α := List Arc) (r := r_g0.2) (x := g0.Arcs) (by repeat (first | exact Has.head | apply Has.tail))) (fun hg => let h := idx_some hx29; ⟨h.1, h.2.1⟩)) ?_
        refine ow_ev (ev_lds (m := 4) (i := (t27_1 : Int)) (xs := g0.Arcs) (y := x28) (l := [.int .i64 x28.From, .int .i64 x28.To, .int .i64 x28.Cap, .int .i64 x28.Cost]) 0 (Kn.imm (α := List Arc) (r := r_g0.2) (x := g0.Arcs) (by repeat (first | exact Has.head | apply Has.tail))) (fun _ => hx29)) ?_
        refine ow_cons (st_alloc rfl (k := fun b30 => ?_))
        refine ow_ev ev_assign ?_
        refine ow_cons (st_store_all (b := b30) (vs := [.int .i64 x28.From, .int .i64 x28.To, .int .i64 x28.Cap, .int .i64 x28.Cost]) (k := ?_))
        refine ow_nil (hK16 _ _ ?_); clear hK16
        refine cw_seq fun K17 hK17 => ?_
        refine cw_region ?_
        refine ow_ev ev_move ?_
        refine ow_ev ev_nilcheck ?_
        refine ow_ev (ev_field_addr 3) ?_
        refine ow_ev (ev_load_own (b := r10.1)) ?_
        refine ow_ev ev_move ?_
        obtain ⟨hI31, hM⟩ := chk_some hM
        refine ow_ev (ev_mul (hr := fun hg => i64b_I64 hI31)) ?_
        obtain ⟨hI32, hM⟩ := chk_some hM
        refine ow_ev (ev_add (hr := fun hg => i64b_I64 hI32)) ?_
        obtain ⟨x33, hx34, hM⟩ := bind_some hM
        refine ow_ev (ev_idx (xs := y11.1) 1 (Kn.trow (e := 3) (r := r13.1) (by repeat (first | exact Has.head | apply Has.tail))) (fun hg => let h := idx_some hx34; ⟨h.1, h.2.1⟩)) ?_
        refine ow_ev (ev_ld (i := ((2 * (t27_1 : Int)) + 1)) (xs := y11.1) (y := x33) 0 (Kn.trow (e := 3) (r := r13.1) (by repeat (first | exact Has.head | apply Has.tail))) (fun _ => hx34)) ?_
        refine ow_ev ev_assign ?_
        refine ow_nil (hK17 _ _ ?_); clear hK17
        refine cw_seq fun K18 hK18 => ?_
        refine cw_region ?_
        refine ow_ev (ev_field_addr 0) ?_
        refine ow_ev (ev_load_own (b := b22)) ?_
        refine ow_ev ev_move ?_
        refine ow_cons (st_bslice (α := Int) 3 (fun _ => ()) ([x33] : List Int) (OkL.flat (fun _ _ _ _ => trivial)) (fun r35 => ?_))
        obtain ⟨hb36, hM⟩ := chk_some hM
        refine ow_cons (st_append (r := rf_1_0) (r2 := r35) (by intro r'; repeat (first | exact Upd.head | apply Upd.tail)) (Kn.trow (e := 3) (r := r35) (by repeat (first | exact Has.head | apply Has.tail))) (OkL.flat (fun _ _ _ _ => trivial)) (of_decide_eq_true hb36) (fun r37 => ?_))
        refine ow_ev (ev_field_addr 0) ?_
        refine ow_cons (st_store_own (b := b22) (l' := [.slice r37.a ((lf_1_0 ++ ([x33] : List Int)).length) r37.cap, .slice r21.a y19.length r21.cap, .int .i64 f_1_2]) (k := ?_))
        refine ow_nil (hK18 _ _ ?_); clear hK18
        refine cw_region ?_
        refine ow_ev (ev_field_addr 2) ?_
        refine ow_ev (ev_load_own (b := b22)) ?_
        refine ow_ev ev_move ?_
        refine ow_ev (ev_field_addr 3) ?_
        refine ow_ev (ev_load_own (b := b30)) ?_
        obtain ⟨hI38, hM⟩ := chk_some hM
        refine ow_ev (ev_mul (hr := fun hg => i64b_I64 hI38)) ?_
        obtain ⟨hI39, hM⟩ := chk_some hM
        refine ow_ev (ev_add (hr := fun hg => i64b_I64 hI39)) ?_
        refine ow_ev (ev_field_addr 2) ?_
        refine ow_cons (st_store_own (b := b22) (l' := [.slice r37.a ((lf_1_0 ++ ([x33] : List Int)).length) r37.cap, .slice r21.a y19.length r21.cap, .int .i64 (f_1_2 + (x33 * x28.Cost))]) (k := ?_))
        refine ow_nil (hK15 _ _ ?_); clear hK15
        refine cw_region ?_
        refine ow_ev (ev_add (hr := fun _ => by unfold I64; omega)) ?_
        refine ow_ev ev_move ?_
        refine ow_nil (hL1 (nn1, ((lf_1_0 ++ ([x33] : List Int)), (f_1_2 + (x33 * x28.Cost)), t27_1 + 1), r37) _ _ (eqc hcont1 hM) (Nat.lt_succ_self _) ⟨rfl, rfl, rfl, rfl, rfl, rfl, trivial⟩ (fun w hm => hm.reord))
      ·
        replace hM := (ite_f hc27).symm.trans hM
        refine cw_exit (hK11 _ _ ?_); clear hK11
        dsimp only [flow_Solve_k1] at hM
        refine cw_seq fun K19 hK19 => ?_
        refine cw_region ?_
        refine ow_ev (ev_load_all (b := b22)) ?_
        refine ow_cons (st_store_all (b := b2) (vs := [.slice rf_1_0.a lf_1_0.length rf_1_0.cap, .slice r21.a y19.length r21.cap, .int .i64 f_1_2]) (k := ?_))
        refine ow_ev ev_assign ?_
        refine ow_nil (hK19 _ _ ?_); clear hK19
        obtain rfl := some_inj hM
        refine cw_ret (kw_retc2 (fun w hm => post_of (rf_1_0, r21) hm rfl))

end Go.Proofs.Ytedocibniankjaa

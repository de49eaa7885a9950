/- Models of functions, and that the code computes them. -/
import Derived.Test.YtnihhidbiepnhaaRf
import Derived.Test.YtnihhidbiepnhaaRk
namespace Go.Proofs.Ytnihhidbiepnhaa
open Go.Dc Go.RowKit
set_option maxRecDepth 10000
set_option linter.unusedVariables false
def law7_RouteLimits_k1 (lr_1_0 : List Step) (overlap0 : Int) (y2 : Int) : Unit → Option Bool := fun _ =>
  (law7_example_m).bind fun y11 =>
  (route_Check_m y11 (Route.mk lr_1_0 overlap0)).bind fun y14 =>
  (law7_awake_m).bind fun y16 =>
  some ((y16 && decide (y14 ≠ 0)) && (decide (y14 = 7) == (decide (24 < y2) || decide (2 < overlap0))))
def law7_RouteLimits_b1 (y2 : Int) (s0 : Step) (overlap0 : Int) (cont1 : ((List Step) × Nat) → Option Bool) : ((List Step) × Nat) → Option Bool := fun (lr_1_0, i_1) =>
  if decide ((i_1 : Int) < y2) then
    (chk (decide ((lr_1_0.length + ([s0] : List Step).length) * 16 ≤ 140737488355328)) <|
    chk (i64b ((i_1 : Int) + 1)) <|
    cont1 ((lr_1_0 ++ ([s0] : List Step)), i_1 + 1))
  else
    (law7_RouteLimits_k1 lr_1_0 overlap0 y2 ())
def law7_RouteLimits_m (n0 : Int) (overlap0 : Int) (s0 : Step) : Option Bool :=
  (keep_Pick_m n0 27).bind fun y2 =>
  iter (law7_RouteLimits_b1 y2 s0 overlap0) FUEL (([] : List Step), 0)
theorem law7_RouteLimits_spec (S : Soup) (w : World) (n0 : Int) (overlap0 : Int) (s0 : Step) (y : Bool) (hM : law7_RouteLimits_m n0 overlap0 s0 = some y) (hS : ∀ k, S k → k < w.heap.size)  :
    Calls Try.prog 6 #[.int .i64 n0, .int .i64 overlap0, .agg #[.int .i64 s0.Section, .int .i64 s0.Dir]] w (Ret w (.bool y)) := by
  refine calls_cw (args := [_, _, _]) Try.func6 rfl ((pre_nil hS).start) rfl ?_
  unfold law7_RouteLimits_m at hM
  refine cw_seq fun K1 hK1 => ?_
  refine cw_region ?_
  refine ow_cons (st_box (l := [.int .i64 s0.Section, .int .i64 s0.Dir]) (k := fun b1 => ?_))
  refine ow_ev ev_assign ?_
  refine ow_nil (hK1 _ _ ?_); clear hK1
  refine cw_seq fun K2 hK2 => ?_
  refine cw_region ?_
  refine ow_ev ev_move ?_
  obtain ⟨y2, hy3, hM⟩ := bind_some hM
  refine ow_cons (st_callv (fun w hm => let ⟨S, hs⟩ := hm; keep_Pick_spec _ w n0 27 y2 hy3 (lend_lt hs) ) ?_)
  refine ow_ev ev_assign ?_
  refine ow_nil (hK2 _ _ ?_); clear hK2
  refine cw_seq fun K3 hK3 => ?_
  refine cw_region ?_
  refine ow_ev ev_move ?_
  refine ow_ev (ev_build [.slice none 0 0, .int .i64 overlap0]) ?_
  refine ow_cons (st_alloc rfl (k := fun b4 => ?_))
  refine ow_cons (st_store_all (b := b4) (vs := [.slice none 0 0, .int .i64 overlap0]) (k := ?_))
  refine ow_nil (hK3 _ _ ?_); clear hK3
  refine cw_seq fun K4 hK4 => ?_
  refine cw_seq fun K5 hK5 => ?_
  refine cw_region ?_
  refine ow_ev ev_assign ?_
  refine ow_nil (hK5 _ _ ?_); clear hK5
  refine cw_block ?_
  refine cw_imp (fun w hm => hm.row_nil (α := Step) 40 (fun _ => ())) ?_
  refine cw_loop (γ := Nat × ((List Step) × Nat) × (SR (GoRep.R Step))) (env := fun (_, (lr_1_0, i_1), rr_1_0) => [(0, .v (.int .i64 y2)), (1, .v (.int .i64 overlap0)), (5, .v (.pointer (some ⟨b1, 0, none⟩))), (7, .v (.pointer (some ⟨b4, 0, none⟩))), (8, .v (.int .i64 (i_1 : Int)))]) (mem := fun (_, (lr_1_0, i_1), rr_1_0) => [own b1 40 [.int .i64 s0.Section, .int .i64 s0.Dir], trow 40 rr_1_0 lr_1_0, own b4 48 [.slice rr_1_0.a lr_1_0.length rr_1_0.cap, .int .i64 overlap0]]) (R := fun g => iter (law7_RouteLimits_b1 y2 s0 overlap0) g.1 g.2.1 = some y) (μ := fun g => g.1) (FUEL, (([] : List Step), 0), (⟨none, 0, (fun _ => ())⟩ : SR (GoRep.R Step) )) hM ⟨rfl, rfl, rfl, rfl, rfl, trivial⟩ (fun w hm => hm.reord) ?_
  clear hM
  intro g hM KL1 hL1
  obtain ⟨nn1, ⟨lr_1_0, i_1⟩, rr_1_0⟩ := g
  dsimp only at hM ⊢
  obtain ⟨nn1, cont1, rfl, hcont1, hM⟩ := iter_open' hM
  dsimp only [law7_RouteLimits_b1] at hM
  refine cw_seq fun K6 hK6 => ?_
  refine cw_seq fun K7 hK7 => ?_
  refine cw_region ?_
  refine ow_ev ev_move ?_
  refine ow_ev ev_move ?_
  refine ow_ev ev_lss ?_
  refine ow_nil (hK7 _ _ ?_); clear hK7
  refine cw_cond rfl (fun hc6 => ?_) (fun hc6 => ?_)
  ·
    replace hM := (ite_t hc6).symm.trans hM
    refine cw_skip (hK6 _ _ ?_); clear hK6
    refine cw_seq fun K8 hK8 => ?_
    refine cw_block ?_
    refine cw_region ?_
    refine ow_ev (ev_field_addr 0) ?_
    refine ow_ev (ev_load_own (b := b4)) ?_
    refine ow_ev (ev_load_all (b := b1)) ?_
    refine ow_cons (st_bslice (α := Step) 40 (fun _ => ()) ([s0] : List Step) (OkL.flat (fun _ _ _ _ => trivial)) (fun r7 => ?_))
    obtain ⟨hb8, hM⟩ := chk_some hM
    refine ow_cons (st_append (r := rr_1_0) (r2 := r7) (by intro r'; repeat (first | exact Upd.head | apply Upd.tail)) (Kn.trow (e := 40) (r := r7) (by repeat (first | exact Has.head | apply Has.tail))) (OkL.flat (fun _ _ _ _ => trivial)) (of_decide_eq_true hb8) (fun r9 => ?_))
    refine ow_ev (ev_field_addr 0) ?_
    refine ow_cons (st_store_own (b := b4) (l' := [.slice r9.a ((lr_1_0 ++ ([s0] : List Step)).length) r9.cap, .int .i64 overlap0]) (k := ?_))
    refine ow_nil (hK8 _ _ ?_); clear hK8
    refine cw_region ?_
    refine ow_ev ev_move ?_
    obtain ⟨hI10, hM⟩ := chk_some hM
    refine ow_ev (ev_add (hr := fun hg => i64b_I64 hI10)) ?_
    refine ow_ev ev_assign ?_
    refine ow_nil (hL1 (nn1, ((lr_1_0 ++ ([s0] : List Step)), i_1 + 1), r9) _ _ (eqc hcont1 hM) (Nat.lt_succ_self _) ⟨rfl, rfl, rfl, rfl, rfl, trivial⟩ (fun w hm => hm.reord))
  ·
    replace hM := (ite_f hc6).symm.trans hM
    refine cw_exit (hK4 _ _ ?_); clear hK4
    dsimp only [law7_RouteLimits_k1] at hM
    refine cw_seq fun K9 hK9 => ?_
    refine cw_region_any _ (List.Sublist.refl _) ?_
    refine aw_ev 1 rfl (ev_load_all (b := b4)) ?_
    obtain ⟨y11, hy12, hM⟩ := bind_some hM
    refine aw_one 0 rfl (st_callF SelL.nil (fun S w hs hP => law7_example_spec _ w  y11 hy12 (lend_lt hs) ) (by intro r c hc; simp only [List.mem_cons, List.not_mem_nil, or_false] at hc; rcases hc with rfl | rfl | rfl | rfl <;> first | exact flatC_own | exact flatC_trow (fun _ _ _ _ => trivial)) (fun r13 => ⟨fun w hm => hm.sub (by repeat (first | exact List.Sublist.refl _ | apply List.Sublist.cons_cons | apply List.Sublist.cons)), ?_⟩))
    dsimp only [List.cons_append, List.nil_append]
    obtain ⟨y14, hy15, hM⟩ := bind_some hM
    refine aw_one 2 rfl (st_callv (fun w hm => let ⟨S, hs⟩ := hm; route_Check_spec _ w y11 r13 (Route.mk lr_1_0 overlap0) rr_1_0 y14 hy15 (lend_lt hs) ⟨(Kn.lend (Kn.trow (e := 9) (r := r13.1) (by repeat (first | exact Has.head | apply Has.tail))) hs), (Kn.lend (Kn.trow (e := 9) (r := r13.2.1) (by repeat (first | exact Has.head | apply Has.tail))) hs), (Kn.lend (Kn.trow (e := 31) (r := r13.2.2.1) (by repeat (first | exact Has.head | apply Has.tail))) hs), (Kn.lend (Kn.trow (e := 91) (r := r13.2.2.2) (by repeat (first | exact Has.head | apply Has.tail))) hs)⟩ (Kn.lend (Kn.trow (e := 40) (r := rr_1_0) (by repeat (first | exact Has.head | apply Has.tail))) hs)) ⟨fun w hm => hm.sub (by repeat (first | exact List.Sublist.refl _ | apply List.Sublist.cons_cons | apply List.Sublist.cons)), ?_⟩)
    refine aw_ev 3 rfl ev_assign ?_
    refine aw_done (hK9 _ _ ?_); clear hK9
    refine cw_seq fun K10 hK10 => ?_
    refine cw_region ?_
    obtain ⟨y16, hy17, hM⟩ := bind_some hM
    refine ow_cons (st_callv (fun w hm => let ⟨S, hs⟩ := hm; law7_awake_spec _ w  y16 hy17 (lend_lt hs) ) ?_)
    refine ow_ev ev_move ?_
    refine ow_evg rfl ev_move ?_
    refine ow_evg rfl ev_neq ?_
    refine ow_ev ev_and ?_
    refine ow_ev ev_move ?_
    refine ow_evg rfl ev_move ?_
    refine ow_evg rfl ev_eql ?_
    refine ow_evg rfl ev_move ?_
    refine ow_evg rfl ev_gtr ?_
    refine ow_evg rfl ev_move ?_
    refine ow_evg rfl ev_move ?_
    refine ow_evg rfl ev_gtr ?_
    refine ow_evg rfl ev_or ?_
    refine ow_evg rfl ev_bool_eql ?_
    refine ow_ev ev_and ?_
    refine ow_ev ev_assign ?_
    refine ow_nil (hK10 _ _ ?_); clear hK10
    obtain rfl := some_inj hM
    refine cw_ret (kw_retc1 (fun w hm => ret_of hm rfl))

end Go.Proofs.Ytnihhidbiepnhaa

/- Models of functions, and that the code computes them. -/
import Derived.Test.YtedocibniankjaaCc
namespace Go.Proofs.Ytedocibniankjaa
open Go.Dc Go.RowKit
set_option maxRecDepth 10000
set_option linter.unusedVariables false
def law28_CirculationChains_k1 (lnext_1 : List Int) (raw0 : List Int) : Unit → Option Bool := fun _ =>
  (circulation_Chains_m lnext_1).bind fun y17 =>
  (ref24_Chains_m lnext_1).bind fun y20 =>
  (circulation_Chains_m raw0).bind fun y23 =>
  (ref24_Chains_m raw0).bind fun y26 =>
  (law28_awake_m).bind fun y29 =>
  (whn y29 default (keep_SameLists_int_m y17.1 y20.1)).bind fun y31 =>
  (whn ((y29 && y31) && decide (y17.2 = y20.2)) default (keep_SameLists_int_m y23.1 y26.1)).bind fun y33 =>
  some ((((y29 && y31) && decide (y17.2 = y20.2)) && y33) && decide (y23.2 = y26.2))
def law28_CirculationChains_b1 (y1 : Keep_Source) (raw0 : List Int) (cont1 : ((List Int) × Int × Int) → Option Bool) : ((List Int) × Int × Int) → Option Bool := fun (lnext_1, s_1_1, n_1) =>
  if decide (0 < n_1) then
    ((keep_Source_Next_m (Keep_Source.mk y1.l s_1_1) 9).bind fun y9 =>
    chk (i64b (y9.1 - 2)) <|
    chk (decide ((lnext_1.length + ([(y9.1 - 2)] : List Int).length) * 8 ≤ 140737488355328)) <|
    chk (i64b (n_1 - 1)) <|
    cont1 ((lnext_1 ++ ([(y9.1 - 2)] : List Int)), y9.2, (n_1 - 1)))
  else
    (law28_CirculationChains_k1 lnext_1 raw0 ())
def law28_CirculationChains_m (raw0 : List Int) (l0 : List Int) : Option Bool :=
  (keep_From_m l0).bind fun y1 =>
  (keep_Source_Next_m y1 7).bind fun y4 =>
  iter (law28_CirculationChains_b1 y1 raw0) FUEL (([] : List Int), y4.2, y4.1)
theorem law28_CirculationChains_spec (S : Soup) (w : World) (raw0 : List Int) (r_raw0 : GoRep.R (List Int)) (l0 : List Int) (r_l0 : GoRep.R (List Int)) (y : Bool) (hM : law28_CirculationChains_m raw0 l0 = some y) (hS : ∀ k, S k → k < w.heap.size) (h_raw0 : GoRep.ok S w r_raw0 raw0) (h_l0 : GoRep.ok S w r_l0 l0) :
    Calls Try.prog 13 #[.slice r_raw0.a raw0.length r_raw0.cap, .slice r_l0.a l0.length r_l0.cap] w (Ret w (.bool y)) := by
  refine calls_cw (args := [_, _]) Try.func13 rfl ((pre_nil hS).start |>.immP (α := List Int) (r := r_raw0) (x := raw0) h_raw0|>.immP (α := List Int) (r := r_l0) (x := l0) h_l0) rfl ?_
  unfold law28_CirculationChains_m at hM
  refine cw_seq fun K1 hK1 => ?_
  refine cw_region ?_
  refine ow_ev ev_assign ?_
  refine ow_nil (hK1 _ _ ?_); clear hK1
  refine cw_seq fun K2 hK2 => ?_
  refine cw_region ?_
  refine ow_ev ev_assign ?_
  refine ow_nil (hK2 _ _ ?_); clear hK2
  refine cw_seq fun K3 hK3 => ?_
  refine cw_region ?_
  refine ow_ev ev_move ?_
  obtain ⟨y1, hy2, hM⟩ := bind_some hM
  refine ow_cons (st_callS SelL.nil (fun S w hs hP => keep_From_spec _ w l0 r_l0 y1 hy2 hs.lt ((Sk.imm (α := List Int) (r := r_l0) (x := l0) (by repeat (first | exact Has.head | apply Has.tail))) S w hs))  (fun r3 => ?_))
  dsimp only [List.cons_append, List.nil_append]
  refine ow_ev ev_assign ?_
  refine ow_nil (hK3 _ _ ?_); clear hK3
  refine cw_seq fun K4 hK4 => ?_
  refine cw_seq fun K5 hK5 => ?_
  refine cw_region ?_
  refine ow_ev ev_move ?_
  obtain ⟨y4, hy5, hM⟩ := bind_some hM
  refine ow_cons (st_callF (by repeat (first | exact SelL.nil | (apply SelL.cons; · (repeat (first | exact Sel.head | apply Sel.tail))))) (fun S w hs hP => keep_Source_Next_spec _ w r3.1 y1 r3.2 7 y4 hy5 hP (Kn.lend (Kn.imm (α := List Int) (r := r3.2) (x := y1.l) (by repeat (first | exact Has.head | apply Has.tail))) hs)) (by intro r c hc; simp only [List.mem_cons, List.not_mem_nil, or_false] at hc; rcases hc with rfl <;> first | exact flatC_own | exact flatC_trow (fun _ _ _ _ => trivial)) (fun r6 => ?_))
  dsimp only [List.cons_append, List.nil_append]
  refine ow_ev ev_assign ?_
  refine ow_nil (hK5 _ _ ?_); clear hK5
  refine cw_block ?_
  refine cw_imp (fun w hm => hm.row_nil (α := Int) 3 (fun _ => ())) ?_
  refine cw_loop (γ := Nat × ((List Int) × Int × Int) × (SR (GoRep.R Int))) (env := fun (_, (lnext_1, s_1_1, n_1), rnext_1) => [(0, .v (.slice r_raw0.a raw0.length r_raw0.cap)), (5, .v (.slice rnext_1.a lnext_1.length rnext_1.cap)), (6, .v (.pointer (some ⟨r3.1, 0, none⟩))), (7, .v (.int .i64 n_1))]) (mem := fun (_, (lnext_1, s_1_1, n_1), rnext_1) => [imm (α := (List Int)) r_raw0 raw0, trow 3 rnext_1 lnext_1, imm (α := (List Int)) r3.2 y1.l, own r3.1 99 [.slice r3.2.a y1.l.length r3.2.cap, .int .i64 s_1_1]]) (R := fun g => iter (law28_CirculationChains_b1 y1 raw0) g.1 g.2.1 = some y) (μ := fun g => g.1) (FUEL, (([] : List Int), y4.2, y4.1), (⟨none, 0, (fun _ => ())⟩ : SR (GoRep.R Int) )) hM ⟨rfl, rfl, rfl, rfl, trivial⟩ (fun w hm => hm.reord) ?_
  clear hM
  intro g hM KL1 hL1
  obtain ⟨nn1, ⟨lnext_1, s_1_1, n_1⟩, rnext_1⟩ := g
  dsimp only at hM ⊢
  obtain ⟨nn1, cont1, rfl, hcont1, hM⟩ := iter_open' hM
  dsimp only [law28_CirculationChains_b1] at hM
  refine cw_seq fun K6 hK6 => ?_
  refine cw_seq fun K7 hK7 => ?_
  refine cw_region ?_
  refine ow_ev ev_move ?_
  refine ow_ev ev_gtr ?_
  refine ow_nil (hK7 _ _ ?_); clear hK7
  refine cw_cond rfl (fun hc8 => ?_) (fun hc8 => ?_)
  ·
    replace hM := (ite_t hc8).symm.trans hM
    refine cw_skip (hK6 _ _ ?_); clear hK6
    refine cw_seq fun K8 hK8 => ?_
    refine cw_block ?_
    refine cw_region ?_
    refine ow_ev ev_move ?_
    refine ow_ev ev_move ?_
    obtain ⟨y9, hy10, hM⟩ := bind_some hM
    refine ow_cons (st_callF (by repeat (first | exact SelL.nil | (apply SelL.cons; · (repeat (first | exact Sel.head | apply Sel.tail))))) (fun S w hs hP => keep_Source_Next_spec _ w r3.1 (Keep_Source.mk y1.l s_1_1) r3.2 9 y9 hy10 hP (Kn.lend (Kn.imm (α := List Int) (r := r3.2) (x := y1.l) (by repeat (first | exact Has.head | apply Has.tail))) hs)) (by intro r c hc; simp only [List.mem_cons, List.not_mem_nil, or_false] at hc; rcases hc with rfl <;> first | exact flatC_own | exact flatC_trow (fun _ _ _ _ => trivial)) (fun r11 => ?_))
    dsimp only [List.cons_append, List.nil_append]
    obtain ⟨hI12, hM⟩ := chk_some hM
    refine ow_ev (ev_sub (hr := fun hg => i64b_I64 hI12)) ?_
    refine ow_cons (st_bslice (α := Int) 3 (fun _ => ()) ([(y9.1 - 2)] : List Int) (OkL.flat (fun _ _ _ _ => trivial)) (fun r13 => ?_))
    obtain ⟨hb14, hM⟩ := chk_some hM
    refine ow_cons (st_append (r := rnext_1) (r2 := r13) (by intro r'; repeat (first | exact Upd.head | apply Upd.tail)) (Kn.trow (e := 3) (r := r13) (by repeat (first | exact Has.head | apply Has.tail))) (OkL.flat (fun _ _ _ _ => trivial)) (of_decide_eq_true hb14) (fun r15 => ?_))
    refine ow_ev ev_assign ?_
    refine ow_nil (hK8 _ _ ?_); clear hK8
    refine cw_region ?_
    refine ow_ev ev_move ?_
    obtain ⟨hI16, hM⟩ := chk_some hM
    refine ow_ev (ev_sub (hr := fun hg => i64b_I64 hI16)) ?_
    refine ow_ev ev_assign ?_
    refine ow_nil (hL1 (nn1, ((lnext_1 ++ ([(y9.1 - 2)] : List Int)), y9.2, (n_1 - 1)), r15) _ _ (eqc hcont1 hM) (Nat.lt_succ_self _) ⟨rfl, rfl, rfl, rfl, trivial⟩ (fun w hm => hm.reord))
  ·
    replace hM := (ite_f hc8).symm.trans hM
    refine cw_exit (hK4 _ _ ?_); clear hK4
    dsimp only [law28_CirculationChains_k1] at hM
    refine cw_seq fun K9 hK9 => ?_
    refine cw_region ?_
    refine ow_ev ev_move ?_
    refine ow_imp (fun w hm => hm.freeze (r := rnext_1) (by repeat (first | exact Upd.head | apply Upd.tail))) ?_
    obtain ⟨y17, hy18, hM⟩ := bind_some hM
    refine ow_cons (st_callS SelL.nil (fun S w hs hP => circulation_Chains_spec _ w lnext_1 rnext_1 y17 hy18 hs.lt ((Sk.imm (α := List Int) (r := rnext_1) (x := lnext_1) (by repeat (first | exact Has.head | apply Has.tail))) S w hs))  (fun r19 => ?_))
    dsimp only [List.cons_append, List.nil_append]
    refine ow_ev ev_move ?_
    refine ow_ev (ev_extract (vs := [.slice r19.a y17.1.length r19.cap, .int .i64 y17.2])) ?_
    refine ow_ev (ev_extract (vs := [.slice r19.a y17.1.length r19.cap, .int .i64 y17.2])) ?_
    refine ow_ev ev_assign ?_
    refine ow_ev ev_assign ?_
    refine ow_nil (hK9 _ _ ?_); clear hK9
    refine cw_seq fun K10 hK10 => ?_
    refine cw_region ?_
    refine ow_ev ev_move ?_
    obtain ⟨y20, hy21, hM⟩ := bind_some hM
    refine ow_cons (st_callS SelL.nil (fun S w hs hP => ref24_Chains_spec _ w lnext_1 rnext_1 y20 hy21 hs.lt ((Sk.imm (α := List Int) (r := rnext_1) (x := lnext_1) (by repeat (first | exact Has.head | apply Has.tail))) S w hs))  (fun r22 => ?_))
    dsimp only [List.cons_append, List.nil_append]
    refine ow_ev ev_move ?_
    refine ow_ev (ev_extract (vs := [.slice r22.a y20.1.length r22.cap, .int .i64 y20.2])) ?_
    refine ow_ev (ev_extract (vs := [.slice r22.a y20.1.length r22.cap, .int .i64 y20.2])) ?_
    refine ow_ev ev_assign ?_
    refine ow_ev ev_assign ?_
    refine ow_nil (hK10 _ _ ?_); clear hK10
    refine cw_seq fun K11 hK11 => ?_
    refine cw_region ?_
    refine ow_ev ev_move ?_
    obtain ⟨y23, hy24, hM⟩ := bind_some hM
    refine ow_cons (st_callS SelL.nil (fun S w hs hP => circulation_Chains_spec _ w raw0 r_raw0 y23 hy24 hs.lt ((Sk.imm (α := List Int) (r := r_raw0) (x := raw0) (by repeat (first | exact Has.head | apply Has.tail))) S w hs))  (fun r25 => ?_))
    dsimp only [List.cons_append, List.nil_append]
    refine ow_ev ev_move ?_
    refine ow_ev (ev_extract (vs := [.slice r25.a y23.1.length r25.cap, .int .i64 y23.2])) ?_
    refine ow_ev (ev_extract (vs := [.slice r25.a y23.1.length r25.cap, .int .i64 y23.2])) ?_
    refine ow_ev ev_assign ?_
    refine ow_ev ev_assign ?_
    refine ow_nil (hK11 _ _ ?_); clear hK11
    refine cw_seq fun K12 hK12 => ?_
    refine cw_region ?_
    refine ow_ev ev_move ?_
    obtain ⟨y26, hy27, hM⟩ := bind_some hM
    refine ow_cons (st_callS SelL.nil (fun S w hs hP => ref24_Chains_spec _ w raw0 r_raw0 y26 hy27 hs.lt ((Sk.imm (α := List Int) (r := r_raw0) (x := raw0) (by repeat (first | exact Has.head | apply Has.tail))) S w hs))  (fun r28 => ?_))
    dsimp only [List.cons_append, List.nil_append]
    refine ow_ev ev_move ?_
    refine ow_ev (ev_extract (vs := [.slice r28.a y26.1.length r28.cap, .int .i64 y26.2])) ?_
    refine ow_ev (ev_extract (vs := [.slice r28.a y26.1.length r28.cap, .int .i64 y26.2])) ?_
    refine ow_ev ev_assign ?_
    refine ow_ev ev_assign ?_
    refine ow_nil (hK12 _ _ ?_); clear hK12
    refine cw_seq fun K13 hK13 => ?_
    refine cw_region ?_
    obtain ⟨y29, hy30, hM⟩ := bind_some hM
    refine ow_cons (st_callv (fun w hm => let ⟨S, hs⟩ := hm; law28_awake_spec _ w  y29 hy30 (lend_lt hs) ) ?_)
    refine ow_ev ev_move ?_
    refine ow_evg rfl ev_move ?_
    refine ow_evg rfl ev_move ?_
    obtain ⟨y31, hy32, hM⟩ := bind_some hM
    refine ow_callg rfl (fun hg w hm => let ⟨S, hs⟩ := hm; keep_SameLists_int_spec _ w y17.1 r19 y20.1 r22 y31 (whn_some hy32 hg) (lend_lt hs) (Kn.lend (Kn.trow (e := 22) (r := r19) (by repeat (first | exact Has.head | apply Has.tail))) hs) (Kn.lend (Kn.trow (e := 22) (r := r22) (by repeat (first | exact Has.head | apply Has.tail))) hs)) ?_
    refine ow_ev ev_and ?_
    refine ow_ev ev_move ?_
    refine ow_evg rfl ev_move ?_
    refine ow_evg rfl ev_move ?_
    refine ow_evg rfl ev_eql ?_
    refine ow_ev ev_and ?_
    refine ow_ev ev_move ?_
    refine ow_evg rfl ev_move ?_
    refine ow_evg rfl ev_move ?_
    obtain ⟨y33, hy34, hM⟩ := bind_some hM
    refine ow_callg rfl (fun hg w hm => let ⟨S, hs⟩ := hm; keep_SameLists_int_spec _ w y23.1 r25 y26.1 r28 y33 (whn_some hy34 hg) (lend_lt hs) (Kn.lend (Kn.trow (e := 22) (r := r25) (by repeat (first | exact Has.head | apply Has.tail))) hs) (Kn.lend (Kn.trow (e := 22) (r := r28) (by repeat (first | exact Has.head | apply Has.tail))) hs)) ?_
    refine ow_ev ev_and ?_
    refine ow_ev ev_move ?_
    refine ow_evg rfl ev_move ?_
    refine ow_evg rfl ev_move ?_
    refine ow_evg rfl ev_eql ?_
    refine ow_ev ev_and ?_
    refine ow_ev ev_assign ?_
    refine ow_nil (hK13 _ _ ?_); clear hK13
    obtain rfl := some_inj hM
    refine cw_ret (kw_retc1 (fun w hm => ret_of hm rfl))

end Go.Proofs.Ytedocibniankjaa

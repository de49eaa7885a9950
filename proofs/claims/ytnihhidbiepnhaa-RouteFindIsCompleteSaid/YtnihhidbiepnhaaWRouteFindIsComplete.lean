/- Models of functions, and that the code computes them. -/
import Derived.Test.YtnihhidbiepnhaaRf
import Derived.Test.YtnihhidbiepnhaaRl
import Derived.Test.YtnihhidbiepnhaaRm
import Derived.Test.YtnihhidbiepnhaaFl
namespace Go.Proofs.Ytnihhidbiepnhaa
open Go.Dc Go.RowKit
set_option maxRecDepth 10000
set_option linter.unusedVariables false
def law7_RouteFindIsComplete_k1 (y17 : (List Route) × Int × Int) (found_1 : Bool) : Unit → Option Bool := fun _ =>
  (law7_awake_m).bind fun y28 =>
  some ((y28 && decide (y17.2.2 = 0)) && found_1)
def law7_RouteFindIsComplete_b1 (y17 : (List Route) × Int × Int) (y5 : Route) (cont1 : (Bool × Nat) → Option Bool) : (Bool × Nat) → Option Bool := fun (found_1, t44_1) =>
  if decide ((t44_1 : Int) < (y17.1.length : Int)) then
    ((whn (!found_1) default (idx y17.1 (t44_1 : Int))).bind fun x22 =>
    if (!found_1) then
    ((keep_SameRoute_m x22 (Route.mk y5.Steps 0)).bind fun y26 =>
    cont1 ((found_1 || y26), t44_1 + 1))
    else
    (cont1 (true, t44_1 + 1)))
  else
    (law7_RouteFindIsComplete_k1 y17 found_1 ())
def law7_RouteFindIsComplete_m (l0 : List Int) (c0 : List Int) : Option Bool :=
  (keep_Layout_m l0).bind fun y1 =>
  (keep_Route_m y1 c0).bind fun y5 =>
  if decide ((y5.Steps.length : Int) < 2) then
    ((law7_awake_m).bind fun y10 =>
    some y10)
  else
    ((idx y5.Steps 0).bind fun x12 =>
    chk (i64b ((y5.Steps.length : Int) - 1)) <|
    (idx y5.Steps ((y5.Steps.length : Int) - 1)).bind fun x15 =>
    (route_Find_m y1 x12 x15.Section 1000).bind fun y17 =>
    iter (law7_RouteFindIsComplete_b1 y17 y5) FUEL (false, 0))
theorem law7_RouteFindIsComplete_spec (S : Soup) (w : World) (l0 : List Int) (r_l0 : GoRep.R (List Int)) (c0 : List Int) (r_c0 : GoRep.R (List Int)) (y : Bool) (hM : law7_RouteFindIsComplete_m l0 c0 = some y) (hS : ∀ k, S k → k < w.heap.size) (h_l0 : GoRep.ok S w r_l0 l0) (h_c0 : GoRep.ok S w r_c0 c0) :
    Calls Try.prog 15 #[.slice r_l0.a l0.length r_l0.cap, .slice r_c0.a c0.length r_c0.cap] w (Ret w (.bool y)) := by
  refine calls_cw (args := [_, _]) Try.func15 rfl ((pre_nil hS).start |>.immP (α := List Int) (r := r_l0) (x := l0) h_l0|>.immP (α := List Int) (r := r_c0) (x := c0) h_c0) rfl ?_
  unfold law7_RouteFindIsComplete_m at hM
  refine cw_seq fun K1 hK1 => ?_
  refine cw_region ?_
  refine ow_ev ev_assign ?_
  refine ow_nil (hK1 _ _ ?_); clear hK1
  refine cw_seq fun K2 hK2 => ?_
  refine cw_region ?_
  refine ow_ev ev_move ?_
  obtain ⟨y1, hy2, hM⟩ := bind_some hM
  refine ow_cons (st_callF SelL.nil (fun S w hs hP => keep_Layout_spec _ w l0 r_l0 y1 hy2 (lend_lt hs) (Kn.lend (Kn.imm (α := List Int) (r := r_l0) (x := l0) (by repeat (first | exact Has.head | apply Has.tail))) hs)) (by intro r c hc; simp only [List.mem_cons, List.not_mem_nil, or_false] at hc; rcases hc with rfl | rfl | rfl | rfl <;> first | exact flatC_own | exact flatC_trow (fun _ _ _ _ => trivial)) (fun r3 => ?_))
  dsimp only [List.cons_append, List.nil_append]
  refine ow_cons (st_alloc rfl (k := fun b4 => ?_))
  refine ow_cons (st_store_all (b := b4) (vs := [.slice r3.1.a y1.Stations.length r3.1.cap, .slice r3.2.1.a y1.Points.length r3.2.1.cap, .slice r3.2.2.1.a y1.Sections.length r3.2.2.1.cap, .slice r3.2.2.2.a y1.Links.length r3.2.2.2.cap]) (k := ?_))
  refine ow_nil (hK2 _ _ ?_); clear hK2
  refine cw_seq fun K3 hK3 => ?_
  refine cw_region ?_
  refine ow_ev (ev_load_all (b := b4)) ?_
  refine ow_ev ev_move ?_
  obtain ⟨y5, hy6, hM⟩ := bind_some hM
  refine ow_cons (st_callF SelL.nil (fun S w hs hP => keep_Route_spec _ w y1 r3 c0 r_c0 y5 hy6 (lend_lt hs) ⟨(Kn.lend (Kn.trow (e := 9) (r := r3.1) (by repeat (first | exact Has.head | apply Has.tail))) hs), (Kn.lend (Kn.trow (e := 9) (r := r3.2.1) (by repeat (first | exact Has.head | apply Has.tail))) hs), (Kn.lend (Kn.trow (e := 31) (r := r3.2.2.1) (by repeat (first | exact Has.head | apply Has.tail))) hs), (Kn.lend (Kn.trow (e := 91) (r := r3.2.2.2) (by repeat (first | exact Has.head | apply Has.tail))) hs)⟩ (Kn.lend (Kn.imm (α := List Int) (r := r_c0) (x := c0) (by repeat (first | exact Has.head | apply Has.tail))) hs)) (by intro r c hc; simp only [List.mem_cons, List.not_mem_nil, or_false] at hc; rcases hc with rfl <;> first | exact flatC_own | exact flatC_trow (fun _ _ _ _ => trivial)) (fun r7 => ?_))
  dsimp only [List.cons_append, List.nil_append]
  refine ow_cons (st_alloc rfl (k := fun b8 => ?_))
  refine ow_cons (st_store_all (b := b8) (vs := [.slice r7.a y5.Steps.length r7.cap, .int .i64 y5.Overlap]) (k := ?_))
  refine ow_nil (hK3 _ _ ?_); clear hK3
  refine cw_seq fun K4 hK4 => ?_
  refine cw_region ?_
  refine ow_ev (ev_field_addr 1) ?_
  refine ow_cons (st_store_own (b := b8) (l' := [.slice r7.a y5.Steps.length r7.cap, .int .i64 0]) (k := ?_))
  refine ow_nil (hK4 _ _ ?_); clear hK4
  refine cw_seq fun K5 hK5 => ?_
  refine cw_seq fun K6 hK6 => ?_
  refine cw_region ?_
  refine ow_ev (ev_field_addr 0) ?_
  refine ow_ev (ev_load_own (b := b8)) ?_
  refine ow_ev ev_len ?_
  refine ow_ev ev_lss ?_
  refine ow_nil (hK6 _ _ ?_); clear hK6
  refine cw_cond rfl (fun hc9 => ?_) (fun hc9 => ?_)
  ·
    replace hM := (ite_t hc9).symm.trans hM
    refine cw_seq fun K7 hK7 => ?_
    refine cw_region ?_
    obtain ⟨y10, hy11, hM⟩ := bind_some hM
    refine ow_cons (st_callv (fun w hm => let ⟨S, hs⟩ := hm; law7_awake_spec _ w  y10 hy11 (lend_lt hs) ) ?_)
    refine ow_ev ev_assign ?_
    refine ow_nil (hK7 _ _ ?_); clear hK7
    obtain rfl := some_inj hM
    refine cw_ret (kw_retc1 (fun w hm => ret_of hm rfl))
  ·
    replace hM := (ite_f hc9).symm.trans hM
    refine cw_skip (hK5 _ _ ?_); clear hK5
    refine cw_seq fun K8 hK8 => ?_
    refine cw_region_any [own b8 48 [.slice r7.a y5.Steps.length r7.cap, .int .i64 0], trow 40 r7 y5.Steps, own b4 28 [.slice r3.1.a y1.Stations.length r3.1.cap, .slice r3.2.1.a y1.Points.length r3.2.1.cap, .slice r3.2.2.1.a y1.Sections.length r3.2.2.1.cap, .slice r3.2.2.2.a y1.Links.length r3.2.2.2.cap], imm (α := (List Int)) r_c0 c0, imm (α := (List Int)) r_l0 l0] (by repeat (first | exact List.Sublist.refl _ | apply List.Sublist.cons_cons | apply List.Sublist.cons)) ?_
    refine aw_ev 0 rfl (ev_load_all (b := b4)) ?_
    refine aw_ev 1 rfl (ev_field_addr 0) ?_
    refine aw_ev 2 rfl (ev_load_own (b := b8)) ?_
    obtain ⟨x12, hx13, hM⟩ := bind_some hM
    refine aw_ev 3 rfl (ev_idx (xs := y5.Steps) 2 (Kn.trow (e := 40) (r := r7) (by repeat (first | exact Has.head | apply Has.tail))) (fun hg => let h := idx_some hx13; ⟨h.1, h.2.1⟩)) ?_
    refine aw_ev 4 rfl (ev_lds (m := 2) (i := 0) (xs := y5.Steps) (y := x12) (l := [.int .i64 x12.Section, .int .i64 x12.Dir]) 0 (Kn.trow (e := 40) (r := r7) (by repeat (first | exact Has.head | apply Has.tail))) (fun _ => hx13)) ?_
    refine aw_ev 5 rfl (ev_field_addr 0) ?_
    refine aw_ev 6 rfl (ev_load_own (b := b8)) ?_
    refine aw_ev 7 rfl (ev_field_addr 0) ?_
    refine aw_ev 8 rfl (ev_load_own (b := b8)) ?_
    refine aw_ev 9 rfl ev_len ?_
    obtain ⟨hI14, hM⟩ := chk_some hM
    refine aw_ev 10 rfl (ev_sub (hr := fun hg => i64b_I64 hI14)) ?_
    obtain ⟨x15, hx16, hM⟩ := bind_some hM
    refine aw_ev 11 rfl (ev_idx (xs := y5.Steps) 2 (Kn.trow (e := 40) (r := r7) (by repeat (first | exact Has.head | apply Has.tail))) (fun hg => let h := idx_some hx16; ⟨h.1, h.2.1⟩)) ?_
    refine aw_ev 12 rfl (ev_field_addr 0) ?_
    refine aw_ev 13 rfl (ev_ld (i := ((y5.Steps.length : Int) - 1)) (xs := y5.Steps) (y := x15) 0 (Kn.trow (e := 40) (r := r7) (by repeat (first | exact Has.head | apply Has.tail))) (fun _ => hx16)) ?_
    refine aw_imp (fun w hm => hm.freeze (r := r3.1) (by repeat (first | exact Upd.head | apply Upd.tail))) ?_
    refine aw_imp (fun w hm => hm.freeze (r := r3.2.1) (by repeat (first | exact Upd.head | apply Upd.tail))) ?_
    refine aw_imp (fun w hm => hm.freeze (r := r3.2.2.1) (by repeat (first | exact Upd.head | apply Upd.tail))) ?_
    refine aw_imp (fun w hm => hm.freeze (r := r3.2.2.2) (by repeat (first | exact Upd.head | apply Upd.tail))) ?_
    obtain ⟨y17, hy18, hM⟩ := bind_some hM
    refine aw_one 14 rfl (st_callS SelL.nil (fun S w hs hP => route_Find_spec _ w y1 r3 x12 x15.Section 1000 y17 hy18 hs.lt ⟨((Sk.imm (α := List Str) (r := r3.1) (x := y1.Stations) (by repeat (first | exact Has.head | apply Has.tail))) S w hs), ((Sk.imm (α := List Str) (r := r3.2.1) (x := y1.Points) (by repeat (first | exact Has.head | apply Has.tail))) S w hs), ((Sk.imm (α := List Section) (r := r3.2.2.1) (x := y1.Sections) (by repeat (first | exact Has.head | apply Has.tail))) S w hs), ((Sk.imm (α := List Link) (r := r3.2.2.2) (x := y1.Links) (by repeat (first | exact Has.head | apply Has.tail))) S w hs)⟩)  (fun r19 => ⟨fun w hm => hm.sub (by repeat (first | exact List.Sublist.refl _ | apply List.Sublist.cons_cons | apply List.Sublist.cons)), ?_⟩))
    dsimp only [List.cons_append, List.nil_append]
    refine aw_ev 15 rfl ev_move ?_
    refine aw_ev 16 rfl (ev_extract (vs := [.slice r19.a y17.1.length r19.cap, .int .i64 y17.2.1, .int .i64 y17.2.2])) ?_
    refine aw_ev 17 rfl (ev_extract (vs := [.slice r19.a y17.1.length r19.cap, .int .i64 y17.2.1, .int .i64 y17.2.2])) ?_
    refine aw_ev 18 rfl (ev_extract (vs := [.slice r19.a y17.1.length r19.cap, .int .i64 y17.2.1, .int .i64 y17.2.2])) ?_
    refine aw_ev 19 rfl ev_assign ?_
    refine aw_ev 20 rfl ev_assign ?_
    refine aw_ev 21 rfl ev_assign ?_
    refine aw_done (hK8 _ _ ?_); clear hK8
    refine cw_seq fun K9 hK9 => ?_
    refine cw_region ?_
    refine ow_ev ev_assign ?_
    refine ow_nil (hK9 _ _ ?_); clear hK9
    refine cw_seq fun K10 hK10 => ?_
    refine cw_seq fun K11 hK11 => ?_
    refine cw_region ?_
    refine ow_ev ev_move ?_
    refine ow_have (fun w hm => Kn.len (Kn.trow (e := 48) (r := r19) (by repeat (first | exact Has.head | apply Has.tail))) hm) fun hl20 => ?_
    refine ow_ev ev_len ?_
    refine ow_ev ev_move ?_
    refine ow_nil (hK11 _ _ ?_); clear hK11
    refine cw_block ?_
    refine cw_loop (γ := Nat × (Bool × Nat) × Unit) (env := fun (_, (found_1, t44_1), _) => [(6, .v (.pointer (some ⟨b8, 0, none⟩))), (7, .v (.slice r19.a y17.1.length r19.cap)), (9, .v (.int .i64 y17.2.2)), (10, .v (.bool found_1)), (43, .v (.int .i64 (y17.1.length : Int))), (44, .v (.int .i64 (t44_1 : Int)))]) (mem := fun (_, (found_1, t44_1), _) => [trow 40 r7 y5.Steps, own b8 48 [.slice r7.a y5.Steps.length r7.cap, .int .i64 0], trow 48 r19 y17.1]) (R := fun g => iter (law7_RouteFindIsComplete_b1 y17 y5) g.1 g.2.1 = some y) (μ := fun g => g.1) (FUEL, (false, 0), ()) hM ⟨rfl, rfl, rfl, rfl, rfl, rfl, trivial⟩ (fun w hm => hm.reord) ?_
    clear hM
    intro g hM KL1 hL1
    obtain ⟨nn1, ⟨found_1, t44_1⟩, ⟨⟩⟩ := g
    dsimp only at hM ⊢
    obtain ⟨nn1, cont1, rfl, hcont1, hM⟩ := iter_open' hM
    dsimp only [law7_RouteFindIsComplete_b1] at hM
    refine cw_seq fun K12 hK12 => ?_
    refine cw_region ?_
    refine ow_ev ev_lss ?_
    refine ow_nil (hK12 _ _ ?_); clear hK12
    refine cw_seq fun K13 hK13 => ?_
    refine cw_cond rfl (fun hc21 => ?_) (fun hc21 => ?_)
    ·
      replace hM := (ite_t hc21).symm.trans hM
      have hc21d := of_decide_eq_true hc21
      refine cw_skip (hK13 _ _ ?_); clear hK13
      refine cw_seq fun K14 hK14 => ?_
      refine cw_block ?_
      refine cw_seq fun K15 hK15 => ?_
      refine cw_region ?_
      refine ow_ev ev_move ?_
      refine ow_ev ev_assign ?_
      refine ow_nil (hK15 _ _ ?_); clear hK15
      refine cw_region_any _ (List.Sublist.refl _) ?_
      refine aw_ev 0 rfl ev_move ?_
      refine aw_ev 1 rfl ev_move ?_
      refine aw_evg 2 rfl rfl ev_move ?_
      refine aw_evg 3 rfl rfl ev_move ?_
      obtain ⟨x22, hx23, hM⟩ := bind_some hM
      refine aw_evg 4 rfl rfl (ev_idx (xs := y17.1) 2 (Kn.trow (e := 48) (r := r19) (by repeat (first | exact Has.head | apply Has.tail))) (fun hg => let h := idx_some (whn_some hx23 hg); ⟨h.1, h.2.1⟩)) ?_
      refine aw_cases (!found_1) (fun hg24 => ?_) (fun hg24 => ?_)
      ·
        replace hM := (ite_t hg24).symm.trans hM
        have hx25 := whn_some hx23 hg24
        refine aw_know 49 hg24 rfl ?_
        refine aw_know 50 hg24 rfl ?_
        refine aw_know 51 hg24 rfl ?_
        refine aw_evk 5 rfl rfl hg24 (ev_lds (m := 2) (i := (t44_1 : Int)) (xs := y17.1) (y := x22) (l := [.slice (r19.es (t44_1 : Int).toNat).a x22.Steps.length (r19.es (t44_1 : Int).toNat).cap, .int .i64 x22.Overlap]) 0 (Kn.trow (e := 48) (r := r19) (by repeat (first | exact Has.head | apply Has.tail))) (fun _ => hx25)) ?_
        refine aw_evk 6 rfl rfl hg24 (ev_load_all (b := b8)) ?_
        obtain ⟨y26, hy27, hM⟩ := bind_some hM
        refine aw_gtrue 7 rfl rfl hg24 (st_callv (fun w hm => let ⟨S, hs⟩ := hm; keep_SameRoute_spec _ w x22 (r19.es (t44_1 : Int).toNat) (Route.mk y5.Steps 0) r7 y26 hy27 (lend_lt hs) (Kn.lend ((Sk.row (e := 48) (r := r19) (by repeat (first | exact Has.head | apply Has.tail)) hx25)).kn hs) (Kn.lend (Kn.trow (e := 40) (r := r7) (by repeat (first | exact Has.head | apply Has.tail))) hs)) ⟨fun w hm => hm.sub (by repeat (first | exact List.Sublist.refl _ | apply List.Sublist.cons_cons | apply List.Sublist.cons)), ?_⟩)
        refine aw_ev 8 rfl ev_or ?_
        refine aw_ev 9 rfl ev_assign ?_
        refine aw_done (hK14 _ _ ?_); clear hK14
        refine cw_region ?_
        refine ow_ev (ev_add (hr := fun _ => by unfold I64; omega)) ?_
        refine ow_ev ev_move ?_
        refine ow_nil (hL1 (nn1, ((found_1 || y26), t44_1 + 1), ()) _ _ (eqc hcont1 hM) (Nat.lt_succ_self _) ⟨rfl, rfl, rfl, rfl, rfl, rfl, trivial⟩ (fun w hm => hm.reord))
      ·
        replace hM := (ite_f hg24).symm.trans hM
        refine aw_gskip 5 rfl rfl hg24 ?_
        refine aw_gskip 6 rfl rfl hg24 ?_
        refine aw_gskip 7 rfl rfl hg24 ?_
        refine aw_ev 8 rfl (ev_orT (bnT hg24)) ?_
        refine aw_ev 9 rfl ev_assign ?_
        refine aw_done (hK14 _ _ ?_); clear hK14
        refine cw_region ?_
        refine ow_ev (ev_add (hr := fun _ => by unfold I64; omega)) ?_
        refine ow_ev ev_move ?_
        refine ow_nil (hL1 (nn1, (true, t44_1 + 1), ()) _ _ (eqc hcont1 hM) (Nat.lt_succ_self _) ⟨rfl, rfl, rfl, rfl, rfl, rfl, trivial⟩ (fun w hm => hm.reord))
    ·
      replace hM := (ite_f hc21).symm.trans hM
      refine cw_exit (hK10 _ _ ?_); clear hK10
      dsimp only [law7_RouteFindIsComplete_k1] at hM
      refine cw_seq fun K16 hK16 => ?_
      refine cw_region ?_
      obtain ⟨y28, hy29, hM⟩ := bind_some hM
      refine ow_cons (st_callv (fun w hm => let ⟨S, hs⟩ := hm; law7_awake_spec _ w  y28 hy29 (lend_lt hs) ) ?_)
      refine ow_ev ev_move ?_
      refine ow_evg rfl ev_move ?_
      refine ow_evg rfl ev_eql ?_
      refine ow_ev ev_and ?_
      refine ow_ev ev_move ?_
      refine ow_evg rfl ev_move ?_
      refine ow_ev ev_and ?_
      refine ow_ev ev_assign ?_
      refine ow_nil (hK16 _ _ ?_); clear hK16
      obtain rfl := some_inj hM
      refine cw_ret (kw_retc1 (fun w hm => ret_of hm rfl))

end Go.Proofs.Ytnihhidbiepnhaa

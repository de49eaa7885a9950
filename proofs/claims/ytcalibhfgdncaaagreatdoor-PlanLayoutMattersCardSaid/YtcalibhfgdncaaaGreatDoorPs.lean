/- Models of functions, and that the code computes them. -/
import Derived.Test.YtcalibhfgdncaaaGreatDoorLm
namespace Go.Proofs.YtcalibhfgdncaaaGreatDoor
open Go.Dc Go.RowKit
set_option maxRecDepth 10000
set_option linter.unusedVariables false
def plan_checkSizes_k2 (p0 : Plan) : Unit → Option Int := fun _ =>
  if (decide (p0.Period < 2) || decide (7200 < p0.Period)) then
    (some 4)
  else
    (some 0)
def plan_checkSizes_b1 (p0 : Plan) (cont1 : Nat → Option Int) : Nat → Option Int := fun t43_1 =>
  if decide ((t43_1 : Int) < (p0.Lines.length : Int)) then
    ((idx p0.Lines (t43_1 : Int)).bind fun x9 =>
    if decide (12 < (x9.Rides.length : Int)) then
      (some 7)
    else
      (cont1 (t43_1 + 1)))
  else
    (plan_checkSizes_k2 p0 ())
def plan_checkSizes_k1 (p0 : Plan) : Bool → Option Int := fun t11_j1 =>
  if t11_j1 then
    (some 7)
  else
    (iter (plan_checkSizes_b1 p0) FUEL 0)
def plan_checkSizes_m (l0 : Layout) (p0 : Plan) : Option Int :=
  (layout_Check_m l0).bind fun y3 =>
  if decide (y3 ≠ 0) then
    (some 1)
  else
    (if decide (8 < (p0.Stocks.length : Int)) then
      (plan_checkSizes_k1 p0 (decide (8 < (p0.Stocks.length : Int))))
    else
      (if decide (48 < (p0.Routes.length : Int)) then
        (plan_checkSizes_k1 p0 (decide (48 < (p0.Routes.length : Int))))
      else
        (if decide (16 < (p0.Lines.length : Int)) then
          (plan_checkSizes_k1 p0 (decide (16 < (p0.Lines.length : Int))))
        else
          (if decide (32 < (p0.Changes.length : Int)) then
            (plan_checkSizes_k1 p0 (decide (32 < (p0.Changes.length : Int))))
          else
            (if decide (32 < (p0.Turns.length : Int)) then
              (plan_checkSizes_k1 p0 (decide (32 < (p0.Turns.length : Int))))
            else
              (if decide (32 < (p0.Syncs.length : Int)) then
                (plan_checkSizes_k1 p0 (decide (32 < (p0.Syncs.length : Int))))
              else
                (plan_checkSizes_k1 p0 (decide (32 < (p0.Demands.length : Int))))))))))
theorem plan_checkSizes_spec (S : Soup) (w : World) (l0 : Layout) (r_l0 : GoRep.R Layout) (p0 : Plan) (r_p0 : GoRep.R Plan) (y : Int) (hM : plan_checkSizes_m l0 p0 = some y) (hS : ∀ k, S k → k < w.heap.size) (h_l0 : GoRep.ok S w r_l0 l0) (h_p0 : GoRep.ok S w r_p0 p0) :
    Calls Tryz.prog 32 #[.agg #[.slice r_l0.1.a l0.Stations.length r_l0.1.cap, .slice r_l0.2.1.a l0.Points.length r_l0.2.1.cap, .slice r_l0.2.2.1.a l0.Sections.length r_l0.2.2.1.cap, .slice r_l0.2.2.2.a l0.Links.length r_l0.2.2.2.cap], .agg #[.int .i64 p0.Period, .slice r_p0.1.a p0.Stocks.length r_p0.1.cap, .slice r_p0.2.1.a p0.Routes.length r_p0.2.1.cap, .slice r_p0.2.2.1.a p0.Lines.length r_p0.2.2.1.cap, .slice r_p0.2.2.2.1.a p0.Changes.length r_p0.2.2.2.1.cap, .slice r_p0.2.2.2.2.1.a p0.Turns.length r_p0.2.2.2.2.1.cap, .slice r_p0.2.2.2.2.2.1.a p0.Syncs.length r_p0.2.2.2.2.2.1.cap, .slice r_p0.2.2.2.2.2.2.a p0.Demands.length r_p0.2.2.2.2.2.2.cap]] w (Ret w (.int .i64 y)) := by
  refine calls_cw (args := [_, _]) Tryz.func32 rfl ((pre_nil hS).start |>.immP (α := List Str) (r := r_l0.1) (x := l0.Stations) h_l0.1|>.immP (α := List Str) (r := r_l0.2.1) (x := l0.Points) h_l0.2.1|>.immP (α := List Section) (r := r_l0.2.2.1) (x := l0.Sections) h_l0.2.2.1|>.immP (α := List Link) (r := r_l0.2.2.2) (x := l0.Links) h_l0.2.2.2|>.immP (α := List Stock) (r := r_p0.1) (x := p0.Stocks) h_p0.1|>.immP (α := List Route) (r := r_p0.2.1) (x := p0.Routes) h_p0.2.1|>.immP (α := List Line) (r := r_p0.2.2.1) (x := p0.Lines) h_p0.2.2.1|>.immP (α := List Change) (r := r_p0.2.2.2.1) (x := p0.Changes) h_p0.2.2.2.1|>.immP (α := List Turn) (r := r_p0.2.2.2.2.1) (x := p0.Turns) h_p0.2.2.2.2.1|>.immP (α := List Sync) (r := r_p0.2.2.2.2.2.1) (x := p0.Syncs) h_p0.2.2.2.2.2.1|>.immP (α := List Demand) (r := r_p0.2.2.2.2.2.2) (x := p0.Demands) h_p0.2.2.2.2.2.2) rfl ?_
  unfold plan_checkSizes_m at hM
  refine cw_seq fun K1 hK1 => ?_
  refine cw_region ?_
  refine ow_cons (st_box (l := [.slice r_l0.1.a l0.Stations.length r_l0.1.cap, .slice r_l0.2.1.a l0.Points.length r_l0.2.1.cap, .slice r_l0.2.2.1.a l0.Sections.length r_l0.2.2.1.cap, .slice r_l0.2.2.2.a l0.Links.length r_l0.2.2.2.cap]) (k := fun b1 => ?_))
  refine ow_cons (st_box (l := [.int .i64 p0.Period, .slice r_p0.1.a p0.Stocks.length r_p0.1.cap, .slice r_p0.2.1.a p0.Routes.length r_p0.2.1.cap, .slice r_p0.2.2.1.a p0.Lines.length r_p0.2.2.1.cap, .slice r_p0.2.2.2.1.a p0.Changes.length r_p0.2.2.2.1.cap, .slice r_p0.2.2.2.2.1.a p0.Turns.length r_p0.2.2.2.2.1.cap, .slice r_p0.2.2.2.2.2.1.a p0.Syncs.length r_p0.2.2.2.2.2.1.cap, .slice r_p0.2.2.2.2.2.2.a p0.Demands.length r_p0.2.2.2.2.2.2.cap]) (k := fun b2 => ?_))
  refine ow_ev ev_assign ?_
  refine ow_nil (hK1 _ _ ?_); clear hK1
  refine cw_seq fun K2 hK2 => ?_
  refine cw_block ?_
  refine cw_seq fun K3 hK3 => ?_
  refine cw_region ?_
  refine ow_ev (ev_load_all (b := b1)) ?_
  obtain ⟨y3, hy4, hM⟩ := bind_some hM
  refine ow_cons (st_callv (fun w hm => let ⟨S, hs⟩ := hm; layout_Check_spec _ w l0 r_l0 y3 hy4 (lend_lt hs) ⟨(Kn.lend (Kn.imm (α := List Str) (r := r_l0.1) (x := l0.Stations) (by repeat (first | exact Has.head | apply Has.tail))) hs), (Kn.lend (Kn.imm (α := List Str) (r := r_l0.2.1) (x := l0.Points) (by repeat (first | exact Has.head | apply Has.tail))) hs), (Kn.lend (Kn.imm (α := List Section) (r := r_l0.2.2.1) (x := l0.Sections) (by repeat (first | exact Has.head | apply Has.tail))) hs), (Kn.lend (Kn.imm (α := List Link) (r := r_l0.2.2.2) (x := l0.Links) (by repeat (first | exact Has.head | apply Has.tail))) hs)⟩) ?_)
  refine ow_ev ev_neq ?_
  refine ow_ev ev_assign ?_
  refine ow_nil (hK3 _ _ ?_); clear hK3
  refine cw_cond rfl (fun hc5 => ?_) (fun hc5 => ?_)
  ·
    replace hM := (ite_t hc5).symm.trans hM
    refine cw_seq fun K4 hK4 => ?_
    refine cw_region ?_
    refine ow_ev ev_assign ?_
    refine ow_nil (hK4 _ _ ?_); clear hK4
    obtain rfl := some_inj hM
    refine cw_ret (kw_retc1 (fun w hm => ret_of hm rfl))
  ·
    replace hM := (ite_f hc5).symm.trans hM
    refine cw_cut (γ := Bool × Unit) (env := fun (t11_j1, _) => [(3, .v (.pointer (some ⟨b2, 0, none⟩))), (11, .v (.bool t11_j1))]) (mem := fun (t11_j1, _) => [imm (α := (List Stock)) r_p0.1 p0.Stocks, imm (α := (List Route)) r_p0.2.1 p0.Routes, imm (α := (List Line)) r_p0.2.2.1 p0.Lines, imm (α := (List Change)) r_p0.2.2.2.1 p0.Changes, imm (α := (List Turn)) r_p0.2.2.2.2.1 p0.Turns, imm (α := (List Sync)) r_p0.2.2.2.2.2.1 p0.Syncs, imm (α := (List Demand)) r_p0.2.2.2.2.2.2 p0.Demands, own b2 35 [.int .i64 p0.Period, .slice r_p0.1.a p0.Stocks.length r_p0.1.cap, .slice r_p0.2.1.a p0.Routes.length r_p0.2.1.cap, .slice r_p0.2.2.1.a p0.Lines.length r_p0.2.2.1.cap, .slice r_p0.2.2.2.1.a p0.Changes.length r_p0.2.2.2.1.cap, .slice r_p0.2.2.2.2.1.a p0.Turns.length r_p0.2.2.2.2.1.cap, .slice r_p0.2.2.2.2.2.1.a p0.Syncs.length r_p0.2.2.2.2.2.1.cap, .slice r_p0.2.2.2.2.2.2.a p0.Demands.length r_p0.2.2.2.2.2.2.cap]]) (R := fun g => plan_checkSizes_k1 p0 g.1 = some y) ?_ ?_
    · intro KJ1 hJ1
      refine cw_seq fun K18 hK18 => ?_
      refine cw_region ?_
      refine ow_ev (ev_field_addr 1) ?_
      refine ow_ev (ev_load_own (b := b2)) ?_
      refine ow_ev ev_len ?_
      refine ow_ev ev_gtr ?_
      refine ow_ev ev_assign ?_
      refine ow_nil (hK18 _ _ ?_); clear hK18
      refine cw_cond rfl (fun hc14 => ?_) (fun hc14 => ?_)
      ·
        replace hM := (ite_t hc14).symm.trans hM
        refine cw_skip (hJ1 ((decide (8 < (p0.Stocks.length : Int))), ()) _ _ hM ⟨rfl, rfl, trivial⟩ (fun w hm => hm.reord))
      ·
        replace hM := (ite_f hc14).symm.trans hM
        refine cw_seq fun K19 hK19 => ?_
        refine cw_region ?_
        refine ow_ev (ev_field_addr 2) ?_
        refine ow_ev (ev_load_own (b := b2)) ?_
        refine ow_ev ev_len ?_
        refine ow_ev ev_gtr ?_
        refine ow_ev ev_assign ?_
        refine ow_nil (hK19 _ _ ?_); clear hK19
        refine cw_cond rfl (fun hc15 => ?_) (fun hc15 => ?_)
        ·
          replace hM := (ite_t hc15).symm.trans hM
          refine cw_skip (hJ1 ((decide (48 < (p0.Routes.length : Int))), ()) _ _ hM ⟨rfl, rfl, trivial⟩ (fun w hm => hm.reord))
        ·
          replace hM := (ite_f hc15).symm.trans hM
          refine cw_seq fun K20 hK20 => ?_
          refine cw_region ?_
          refine ow_ev (ev_field_addr 3) ?_
          refine ow_ev (ev_load_own (b := b2)) ?_
          refine ow_ev ev_len ?_
          refine ow_ev ev_gtr ?_
          refine ow_ev ev_assign ?_
          refine ow_nil (hK20 _ _ ?_); clear hK20
          refine cw_cond rfl (fun hc16 => ?_) (fun hc16 => ?_)
          ·
            replace hM := (ite_t hc16).symm.trans hM
            refine cw_skip (hJ1 ((decide (16 < (p0.Lines.length : Int))), ()) _ _ hM ⟨rfl, rfl, trivial⟩ (fun w hm => hm.reord))
          ·
            replace hM := (ite_f hc16).symm.trans hM
            refine cw_seq fun K21 hK21 => ?_
            refine cw_region ?_
            refine ow_ev (ev_field_addr 4) ?_
            refine ow_ev (ev_load_own (b := b2)) ?_
            refine ow_ev ev_len ?_
            refine ow_ev ev_gtr ?_
            refine ow_ev ev_assign ?_
            refine ow_nil (hK21 _ _ ?_); clear hK21
            refine cw_cond rfl (fun hc17 => ?_) (fun hc17 => ?_)
            ·
              replace hM := (ite_t hc17).symm.trans hM
              refine cw_skip (hJ1 ((decide (32 < (p0.Changes.length : Int))), ()) _ _ hM ⟨rfl, rfl, trivial⟩ (fun w hm => hm.reord))
            ·
              replace hM := (ite_f hc17).symm.trans hM
              refine cw_seq fun K22 hK22 => ?_
              refine cw_region ?_
              refine ow_ev (ev_field_addr 5) ?_
              refine ow_ev (ev_load_own (b := b2)) ?_
              refine ow_ev ev_len ?_
              refine ow_ev ev_gtr ?_
              refine ow_ev ev_assign ?_
              refine ow_nil (hK22 _ _ ?_); clear hK22
              refine cw_cond rfl (fun hc18 => ?_) (fun hc18 => ?_)
              ·
                replace hM := (ite_t hc18).symm.trans hM
                refine cw_skip (hJ1 ((decide (32 < (p0.Turns.length : Int))), ()) _ _ hM ⟨rfl, rfl, trivial⟩ (fun w hm => hm.reord))
              ·
                replace hM := (ite_f hc18).symm.trans hM
                refine cw_seq fun K23 hK23 => ?_
                refine cw_region ?_
                refine ow_ev (ev_field_addr 6) ?_
                refine ow_ev (ev_load_own (b := b2)) ?_
                refine ow_ev ev_len ?_
                refine ow_ev ev_gtr ?_
                refine ow_ev ev_assign ?_
                refine ow_nil (hK23 _ _ ?_); clear hK23
                refine cw_cond rfl (fun hc19 => ?_) (fun hc19 => ?_)
                ·
                  replace hM := (ite_t hc19).symm.trans hM
                  refine cw_skip (hJ1 ((decide (32 < (p0.Syncs.length : Int))), ()) _ _ hM ⟨rfl, rfl, trivial⟩ (fun w hm => hm.reord))
                ·
                  replace hM := (ite_f hc19).symm.trans hM
                  refine cw_region ?_
                  refine ow_ev (ev_field_addr 7) ?_
                  refine ow_ev (ev_load_own (b := b2)) ?_
                  refine ow_ev ev_len ?_
                  refine ow_ev ev_gtr ?_
                  refine ow_ev ev_assign ?_
                  refine ow_nil (hJ1 ((decide (32 < (p0.Demands.length : Int))), ()) _ _ hM ⟨rfl, rfl, trivial⟩ (fun w hm => hm.reord))
    ·
      clear hM
      intro g hM
      obtain ⟨t11_j1, ⟨⟩⟩ := g
      dsimp only at hM ⊢
      dsimp only [plan_checkSizes_k1] at hM
      refine cw_cond rfl (fun hc6 => ?_) (fun hc6 => ?_)
      ·
        replace hM := (ite_t hc6).symm.trans hM
        refine cw_seq fun K5 hK5 => ?_
        refine cw_region ?_
        refine ow_ev ev_assign ?_
        refine ow_nil (hK5 _ _ ?_); clear hK5
        obtain rfl := some_inj hM
        refine cw_ret (kw_retc1 (fun w hm => ret_of hm rfl))
      ·
        replace hM := (ite_f hc6).symm.trans hM
        refine cw_skip (hK2 _ _ ?_); clear hK2
        refine cw_seq fun K6 hK6 => ?_
        refine cw_seq fun K7 hK7 => ?_
        refine cw_region ?_
        refine ow_ev (ev_field_addr 3) ?_
        refine ow_ev (ev_load_own (b := b2)) ?_
        refine ow_have (fun w hm => Kn.len (Kn.imm (α := List Line) (r := r_p0.2.2.1) (x := p0.Lines) (by repeat (first | exact Has.head | apply Has.tail))) hm) fun hl7 => ?_
        refine ow_ev ev_len ?_
        refine ow_ev ev_move ?_
        refine ow_nil (hK7 _ _ ?_); clear hK7
        refine cw_block ?_
        refine cw_loop (γ := Nat × Nat × Unit) (env := fun (_, t43_1, _) => [(3, .v (.pointer (some ⟨b2, 0, none⟩))), (41, .v (.slice r_p0.2.2.1.a p0.Lines.length r_p0.2.2.1.cap)), (42, .v (.int .i64 (p0.Lines.length : Int))), (43, .v (.int .i64 (t43_1 : Int)))]) (mem := fun (_, t43_1, _) => [imm (α := (List Stock)) r_p0.1 p0.Stocks, imm (α := (List Route)) r_p0.2.1 p0.Routes, imm (α := (List Line)) r_p0.2.2.1 p0.Lines, imm (α := (List Change)) r_p0.2.2.2.1 p0.Changes, imm (α := (List Turn)) r_p0.2.2.2.2.1 p0.Turns, imm (α := (List Sync)) r_p0.2.2.2.2.2.1 p0.Syncs, imm (α := (List Demand)) r_p0.2.2.2.2.2.2 p0.Demands, own b2 35 [.int .i64 p0.Period, .slice r_p0.1.a p0.Stocks.length r_p0.1.cap, .slice r_p0.2.1.a p0.Routes.length r_p0.2.1.cap, .slice r_p0.2.2.1.a p0.Lines.length r_p0.2.2.1.cap, .slice r_p0.2.2.2.1.a p0.Changes.length r_p0.2.2.2.1.cap, .slice r_p0.2.2.2.2.1.a p0.Turns.length r_p0.2.2.2.2.1.cap, .slice r_p0.2.2.2.2.2.1.a p0.Syncs.length r_p0.2.2.2.2.2.1.cap, .slice r_p0.2.2.2.2.2.2.a p0.Demands.length r_p0.2.2.2.2.2.2.cap]]) (R := fun g => iter (plan_checkSizes_b1 p0) g.1 g.2.1 = some y) (μ := fun g => g.1) (FUEL, 0, ()) hM ⟨rfl, rfl, rfl, rfl, trivial⟩ (fun w hm => hm.reord) ?_
        clear hM
        intro g hM KL1 hL1
        obtain ⟨nn1, t43_1, ⟨⟩⟩ := g
        dsimp only at hM ⊢
        obtain ⟨nn1, cont1, rfl, hcont1, hM⟩ := iter_open' hM
        dsimp only [plan_checkSizes_b1] at hM
        refine cw_seq fun K8 hK8 => ?_
        refine cw_region ?_
        refine ow_ev ev_lss ?_
        refine ow_nil (hK8 _ _ ?_); clear hK8
        refine cw_seq fun K9 hK9 => ?_
        refine cw_cond rfl (fun hc8 => ?_) (fun hc8 => ?_)
        ·
          replace hM := (ite_t hc8).symm.trans hM
          have hc8d := of_decide_eq_true hc8
          refine cw_skip (hK9 _ _ ?_); clear hK9
          refine cw_seq fun K10 hK10 => ?_
          refine cw_block ?_
          refine cw_seq fun K11 hK11 => ?_
          refine cw_region ?_
          obtain ⟨x9, hx10, hM⟩ := bind_some hM
          refine ow_ev (ev_idx (xs := p0.Lines) 4 (Kn.imm (α := List Line) (r := r_p0.2.2.1) (x := p0.Lines) (by repeat (first | exact Has.head | apply Has.tail))) (fun hg => let h := idx_some hx10; ⟨h.1, h.2.1⟩)) ?_
          refine ow_ev (ev_lds (m := 4) (i := (t43_1 : Int)) (xs := p0.Lines) (y := x9) (l := [.string x9.Name.ba, .int .i64 x9.Stock, .int .i64 x9.Weight, .slice (r_p0.2.2.1.es (t43_1 : Int).toNat).a x9.Rides.length (r_p0.2.2.1.es (t43_1 : Int).toNat).cap]) 0 (Kn.imm (α := List Line) (r := r_p0.2.2.1) (x := p0.Lines) (by repeat (first | exact Has.head | apply Has.tail))) (fun _ => hx10)) ?_
          refine ow_cons (st_alloc rfl (k := fun b11 => ?_))
          refine ow_cons (st_store_all (b := b11) (vs := [.string x9.Name.ba, .int .i64 x9.Stock, .int .i64 x9.Weight, .slice (r_p0.2.2.1.es (t43_1 : Int).toNat).a x9.Rides.length (r_p0.2.2.1.es (t43_1 : Int).toNat).cap]) (k := ?_))
          refine ow_nil (hK11 _ _ ?_); clear hK11
          refine cw_seq fun K12 hK12 => ?_
          refine cw_region ?_
          refine ow_ev (ev_field_addr 3) ?_
          refine ow_ev (ev_load_own (b := b11)) ?_
          refine ow_ev ev_len ?_
          refine ow_ev ev_gtr ?_
          refine ow_nil (hK12 _ _ ?_); clear hK12
          refine cw_cond rfl (fun hc12 => ?_) (fun hc12 => ?_)
          ·
            replace hM := (ite_t hc12).symm.trans hM
            refine cw_seq fun K13 hK13 => ?_
            refine cw_region ?_
            refine ow_ev ev_assign ?_
            refine ow_nil (hK13 _ _ ?_); clear hK13
            obtain rfl := some_inj hM
            refine cw_ret (kw_retc1 (fun w hm => ret_of hm rfl))
          ·
            replace hM := (ite_f hc12).symm.trans hM
            refine cw_skip (hK10 _ _ ?_); clear hK10
            refine cw_region ?_
            refine ow_ev (ev_add (hr := fun _ => by unfold I64; omega)) ?_
            refine ow_ev ev_move ?_
            refine ow_nil (hL1 (nn1, (t43_1 + 1), ()) _ _ (eqc hcont1 hM) (Nat.lt_succ_self _) ⟨rfl, rfl, rfl, rfl, trivial⟩ (fun w hm => hm.reord))
        ·
          replace hM := (ite_f hc8).symm.trans hM
          refine cw_exit (hK6 _ _ ?_); clear hK6
          dsimp only [plan_checkSizes_k2] at hM
          refine cw_seq fun K14 hK14 => ?_
          refine cw_seq fun K15 hK15 => ?_
          refine cw_region ?_
          refine ow_ev (ev_field_addr 0) ?_
          refine ow_ev (ev_load_own (b := b2)) ?_
          refine ow_ev ev_lss ?_
          refine ow_ev ev_move ?_
          refine ow_evg rfl (ev_field_addr 0) ?_
          refine ow_evg rfl (ev_load_own (b := b2)) ?_
          refine ow_evg rfl ev_gtr ?_
          refine ow_ev ev_or ?_
          refine ow_nil (hK15 _ _ ?_); clear hK15
          refine cw_cond rfl (fun hc13 => ?_) (fun hc13 => ?_)
          ·
            replace hM := (ite_t hc13).symm.trans hM
            refine cw_seq fun K16 hK16 => ?_
            refine cw_region ?_
            refine ow_ev ev_assign ?_
            refine ow_nil (hK16 _ _ ?_); clear hK16
            obtain rfl := some_inj hM
            refine cw_ret (kw_retc1 (fun w hm => ret_of hm rfl))
          ·
            replace hM := (ite_f hc13).symm.trans hM
            refine cw_skip (hK14 _ _ ?_); clear hK14
            refine cw_seq fun K17 hK17 => ?_
            refine cw_region ?_
            refine ow_ev ev_assign ?_
            refine ow_nil (hK17 _ _ ?_); clear hK17
            obtain rfl := some_inj hM
            refine cw_ret (kw_retc1 (fun w hm => ret_of hm rfl))

def plan_checkStocks_m (l0 : Layout) (p0 : Plan) : Option Int :=
  none
theorem plan_checkStocks_spec (S : Soup) (w : World) (l0 : Layout) (r_l0 : GoRep.R Layout) (p0 : Plan) (r_p0 : GoRep.R Plan) (y : Int) (hM : plan_checkStocks_m l0 p0 = some y) (hS : ∀ k, S k → k < w.heap.size) (h_l0 : GoRep.ok S w r_l0 l0) (h_p0 : GoRep.ok S w r_p0 p0) :
    Calls Tryz.prog 33 #[.agg #[.slice r_l0.1.a l0.Stations.length r_l0.1.cap, .slice r_l0.2.1.a l0.Points.length r_l0.2.1.cap, .slice r_l0.2.2.1.a l0.Sections.length r_l0.2.2.1.cap, .slice r_l0.2.2.2.a l0.Links.length r_l0.2.2.2.cap], .agg #[.int .i64 p0.Period, .slice r_p0.1.a p0.Stocks.length r_p0.1.cap, .slice r_p0.2.1.a p0.Routes.length r_p0.2.1.cap, .slice r_p0.2.2.1.a p0.Lines.length r_p0.2.2.1.cap, .slice r_p0.2.2.2.1.a p0.Changes.length r_p0.2.2.2.1.cap, .slice r_p0.2.2.2.2.1.a p0.Turns.length r_p0.2.2.2.2.1.cap, .slice r_p0.2.2.2.2.2.1.a p0.Syncs.length r_p0.2.2.2.2.2.1.cap, .slice r_p0.2.2.2.2.2.2.a p0.Demands.length r_p0.2.2.2.2.2.2.cap]] w (Ret w (.int .i64 y)) := by
  refine calls_cw (args := [_, _]) Tryz.func33 rfl ((pre_nil hS).start |>.immP (α := List Str) (r := r_l0.1) (x := l0.Stations) h_l0.1|>.immP (α := List Str) (r := r_l0.2.1) (x := l0.Points) h_l0.2.1|>.immP (α := List Section) (r := r_l0.2.2.1) (x := l0.Sections) h_l0.2.2.1|>.immP (α := List Link) (r := r_l0.2.2.2) (x := l0.Links) h_l0.2.2.2|>.immP (α := List Stock) (r := r_p0.1) (x := p0.Stocks) h_p0.1|>.immP (α := List Route) (r := r_p0.2.1) (x := p0.Routes) h_p0.2.1|>.immP (α := List Line) (r := r_p0.2.2.1) (x := p0.Lines) h_p0.2.2.1|>.immP (α := List Change) (r := r_p0.2.2.2.1) (x := p0.Changes) h_p0.2.2.2.1|>.immP (α := List Turn) (r := r_p0.2.2.2.2.1) (x := p0.Turns) h_p0.2.2.2.2.1|>.immP (α := List Sync) (r := r_p0.2.2.2.2.2.1) (x := p0.Syncs) h_p0.2.2.2.2.2.1|>.immP (α := List Demand) (r := r_p0.2.2.2.2.2.2) (x := p0.Demands) h_p0.2.2.2.2.2.2) rfl ?_
  unfold plan_checkStocks_m at hM
  refine cw_seq fun K1 hK1 => ?_
  cases hM

def plan_checkRoutes_m (l0 : Layout) (p0 : Plan) : Option Int :=
  none
theorem plan_checkRoutes_spec (S : Soup) (w : World) (l0 : Layout) (r_l0 : GoRep.R Layout) (p0 : Plan) (r_p0 : GoRep.R Plan) (y : Int) (hM : plan_checkRoutes_m l0 p0 = some y) (hS : ∀ k, S k → k < w.heap.size) (h_l0 : GoRep.ok S w r_l0 l0) (h_p0 : GoRep.ok S w r_p0 p0) :
    Calls Tryz.prog 34 #[.agg #[.slice r_l0.1.a l0.Stations.length r_l0.1.cap, .slice r_l0.2.1.a l0.Points.length r_l0.2.1.cap, .slice r_l0.2.2.1.a l0.Sections.length r_l0.2.2.1.cap, .slice r_l0.2.2.2.a l0.Links.length r_l0.2.2.2.cap], .agg #[.int .i64 p0.Period, .slice r_p0.1.a p0.Stocks.length r_p0.1.cap, .slice r_p0.2.1.a p0.Routes.length r_p0.2.1.cap, .slice r_p0.2.2.1.a p0.Lines.length r_p0.2.2.1.cap, .slice r_p0.2.2.2.1.a p0.Changes.length r_p0.2.2.2.1.cap, .slice r_p0.2.2.2.2.1.a p0.Turns.length r_p0.2.2.2.2.1.cap, .slice r_p0.2.2.2.2.2.1.a p0.Syncs.length r_p0.2.2.2.2.2.1.cap, .slice r_p0.2.2.2.2.2.2.a p0.Demands.length r_p0.2.2.2.2.2.2.cap]] w (Ret w (.int .i64 y)) := by
  refine calls_cw (args := [_, _]) Tryz.func34 rfl ((pre_nil hS).start |>.immP (α := List Str) (r := r_l0.1) (x := l0.Stations) h_l0.1|>.immP (α := List Str) (r := r_l0.2.1) (x := l0.Points) h_l0.2.1|>.immP (α := List Section) (r := r_l0.2.2.1) (x := l0.Sections) h_l0.2.2.1|>.immP (α := List Link) (r := r_l0.2.2.2) (x := l0.Links) h_l0.2.2.2|>.immP (α := List Stock) (r := r_p0.1) (x := p0.Stocks) h_p0.1|>.immP (α := List Route) (r := r_p0.2.1) (x := p0.Routes) h_p0.2.1|>.immP (α := List Line) (r := r_p0.2.2.1) (x := p0.Lines) h_p0.2.2.1|>.immP (α := List Change) (r := r_p0.2.2.2.1) (x := p0.Changes) h_p0.2.2.2.1|>.immP (α := List Turn) (r := r_p0.2.2.2.2.1) (x := p0.Turns) h_p0.2.2.2.2.1|>.immP (α := List Sync) (r := r_p0.2.2.2.2.2.1) (x := p0.Syncs) h_p0.2.2.2.2.2.1|>.immP (α := List Demand) (r := r_p0.2.2.2.2.2.2) (x := p0.Demands) h_p0.2.2.2.2.2.2) rfl ?_
  unfold plan_checkRoutes_m at hM
  refine cw_seq fun K1 hK1 => ?_
  cases hM

def plan_checkLines_m (l0 : Layout) (p0 : Plan) : Option Int :=
  none
theorem plan_checkLines_spec (S : Soup) (w : World) (l0 : Layout) (r_l0 : GoRep.R Layout) (p0 : Plan) (r_p0 : GoRep.R Plan) (y : Int) (hM : plan_checkLines_m l0 p0 = some y) (hS : ∀ k, S k → k < w.heap.size) (h_l0 : GoRep.ok S w r_l0 l0) (h_p0 : GoRep.ok S w r_p0 p0) :
    Calls Tryz.prog 35 #[.agg #[.slice r_l0.1.a l0.Stations.length r_l0.1.cap, .slice r_l0.2.1.a l0.Points.length r_l0.2.1.cap, .slice r_l0.2.2.1.a l0.Sections.length r_l0.2.2.1.cap, .slice r_l0.2.2.2.a l0.Links.length r_l0.2.2.2.cap], .agg #[.int .i64 p0.Period, .slice r_p0.1.a p0.Stocks.length r_p0.1.cap, .slice r_p0.2.1.a p0.Routes.length r_p0.2.1.cap, .slice r_p0.2.2.1.a p0.Lines.length r_p0.2.2.1.cap, .slice r_p0.2.2.2.1.a p0.Changes.length r_p0.2.2.2.1.cap, .slice r_p0.2.2.2.2.1.a p0.Turns.length r_p0.2.2.2.2.1.cap, .slice r_p0.2.2.2.2.2.1.a p0.Syncs.length r_p0.2.2.2.2.2.1.cap, .slice r_p0.2.2.2.2.2.2.a p0.Demands.length r_p0.2.2.2.2.2.2.cap]] w (Ret w (.int .i64 y)) := by
  refine calls_cw (args := [_, _]) Tryz.func35 rfl ((pre_nil hS).start |>.immP (α := List Str) (r := r_l0.1) (x := l0.Stations) h_l0.1|>.immP (α := List Str) (r := r_l0.2.1) (x := l0.Points) h_l0.2.1|>.immP (α := List Section) (r := r_l0.2.2.1) (x := l0.Sections) h_l0.2.2.1|>.immP (α := List Link) (r := r_l0.2.2.2) (x := l0.Links) h_l0.2.2.2|>.immP (α := List Stock) (r := r_p0.1) (x := p0.Stocks) h_p0.1|>.immP (α := List Route) (r := r_p0.2.1) (x := p0.Routes) h_p0.2.1|>.immP (α := List Line) (r := r_p0.2.2.1) (x := p0.Lines) h_p0.2.2.1|>.immP (α := List Change) (r := r_p0.2.2.2.1) (x := p0.Changes) h_p0.2.2.2.1|>.immP (α := List Turn) (r := r_p0.2.2.2.2.1) (x := p0.Turns) h_p0.2.2.2.2.1|>.immP (α := List Sync) (r := r_p0.2.2.2.2.2.1) (x := p0.Syncs) h_p0.2.2.2.2.2.1|>.immP (α := List Demand) (r := r_p0.2.2.2.2.2.2) (x := p0.Demands) h_p0.2.2.2.2.2.2) rfl ?_
  unfold plan_checkLines_m at hM
  refine cw_seq fun K1 hK1 => ?_
  cases hM

def plan_checkChanges_m (l0 : Layout) (p0 : Plan) : Option Int :=
  none
theorem plan_checkChanges_spec (S : Soup) (w : World) (l0 : Layout) (r_l0 : GoRep.R Layout) (p0 : Plan) (r_p0 : GoRep.R Plan) (y : Int) (hM : plan_checkChanges_m l0 p0 = some y) (hS : ∀ k, S k → k < w.heap.size) (h_l0 : GoRep.ok S w r_l0 l0) (h_p0 : GoRep.ok S w r_p0 p0) :
    Calls Tryz.prog 36 #[.agg #[.slice r_l0.1.a l0.Stations.length r_l0.1.cap, .slice r_l0.2.1.a l0.Points.length r_l0.2.1.cap, .slice r_l0.2.2.1.a l0.Sections.length r_l0.2.2.1.cap, .slice r_l0.2.2.2.a l0.Links.length r_l0.2.2.2.cap], .agg #[.int .i64 p0.Period, .slice r_p0.1.a p0.Stocks.length r_p0.1.cap, .slice r_p0.2.1.a p0.Routes.length r_p0.2.1.cap, .slice r_p0.2.2.1.a p0.Lines.length r_p0.2.2.1.cap, .slice r_p0.2.2.2.1.a p0.Changes.length r_p0.2.2.2.1.cap, .slice r_p0.2.2.2.2.1.a p0.Turns.length r_p0.2.2.2.2.1.cap, .slice r_p0.2.2.2.2.2.1.a p0.Syncs.length r_p0.2.2.2.2.2.1.cap, .slice r_p0.2.2.2.2.2.2.a p0.Demands.length r_p0.2.2.2.2.2.2.cap]] w (Ret w (.int .i64 y)) := by
  refine calls_cw (args := [_, _]) Tryz.func36 rfl ((pre_nil hS).start |>.immP (α := List Str) (r := r_l0.1) (x := l0.Stations) h_l0.1|>.immP (α := List Str) (r := r_l0.2.1) (x := l0.Points) h_l0.2.1|>.immP (α := List Section) (r := r_l0.2.2.1) (x := l0.Sections) h_l0.2.2.1|>.immP (α := List Link) (r := r_l0.2.2.2) (x := l0.Links) h_l0.2.2.2|>.immP (α := List Stock) (r := r_p0.1) (x := p0.Stocks) h_p0.1|>.immP (α := List Route) (r := r_p0.2.1) (x := p0.Routes) h_p0.2.1|>.immP (α := List Line) (r := r_p0.2.2.1) (x := p0.Lines) h_p0.2.2.1|>.immP (α := List Change) (r := r_p0.2.2.2.1) (x := p0.Changes) h_p0.2.2.2.1|>.immP (α := List Turn) (r := r_p0.2.2.2.2.1) (x := p0.Turns) h_p0.2.2.2.2.1|>.immP (α := List Sync) (r := r_p0.2.2.2.2.2.1) (x := p0.Syncs) h_p0.2.2.2.2.2.1|>.immP (α := List Demand) (r := r_p0.2.2.2.2.2.2) (x := p0.Demands) h_p0.2.2.2.2.2.2) rfl ?_
  unfold plan_checkChanges_m at hM
  refine cw_seq fun K1 hK1 => ?_
  cases hM

def plan_checkTurns_m (l0 : Layout) (p0 : Plan) : Option Int :=
  none
theorem plan_checkTurns_spec (S : Soup) (w : World) (l0 : Layout) (r_l0 : GoRep.R Layout) (p0 : Plan) (r_p0 : GoRep.R Plan) (y : Int) (hM : plan_checkTurns_m l0 p0 = some y) (hS : ∀ k, S k → k < w.heap.size) (h_l0 : GoRep.ok S w r_l0 l0) (h_p0 : GoRep.ok S w r_p0 p0) :
    Calls Tryz.prog 37 #[.agg #[.slice r_l0.1.a l0.Stations.length r_l0.1.cap, .slice r_l0.2.1.a l0.Points.length r_l0.2.1.cap, .slice r_l0.2.2.1.a l0.Sections.length r_l0.2.2.1.cap, .slice r_l0.2.2.2.a l0.Links.length r_l0.2.2.2.cap], .agg #[.int .i64 p0.Period, .slice r_p0.1.a p0.Stocks.length r_p0.1.cap, .slice r_p0.2.1.a p0.Routes.length r_p0.2.1.cap, .slice r_p0.2.2.1.a p0.Lines.length r_p0.2.2.1.cap, .slice r_p0.2.2.2.1.a p0.Changes.length r_p0.2.2.2.1.cap, .slice r_p0.2.2.2.2.1.a p0.Turns.length r_p0.2.2.2.2.1.cap, .slice r_p0.2.2.2.2.2.1.a p0.Syncs.length r_p0.2.2.2.2.2.1.cap, .slice r_p0.2.2.2.2.2.2.a p0.Demands.length r_p0.2.2.2.2.2.2.cap]] w (Ret w (.int .i64 y)) := by
  refine calls_cw (args := [_, _]) Tryz.func37 rfl ((pre_nil hS).start |>.immP (α := List Str) (r := r_l0.1) (x := l0.Stations) h_l0.1|>.immP (α := List Str) (r := r_l0.2.1) (x := l0.Points) h_l0.2.1|>.immP (α := List Section) (r := r_l0.2.2.1) (x := l0.Sections) h_l0.2.2.1|>.immP (α := List Link) (r := r_l0.2.2.2) (x := l0.Links) h_l0.2.2.2|>.immP (α := List Stock) (r := r_p0.1) (x := p0.Stocks) h_p0.1|>.immP (α := List Route) (r := r_p0.2.1) (x := p0.Routes) h_p0.2.1|>.immP (α := List Line) (r := r_p0.2.2.1) (x := p0.Lines) h_p0.2.2.1|>.immP (α := List Change) (r := r_p0.2.2.2.1) (x := p0.Changes) h_p0.2.2.2.1|>.immP (α := List Turn) (r := r_p0.2.2.2.2.1) (x := p0.Turns) h_p0.2.2.2.2.1|>.immP (α := List Sync) (r := r_p0.2.2.2.2.2.1) (x := p0.Syncs) h_p0.2.2.2.2.2.1|>.immP (α := List Demand) (r := r_p0.2.2.2.2.2.2) (x := p0.Demands) h_p0.2.2.2.2.2.2) rfl ?_
  unfold plan_checkTurns_m at hM
  refine cw_seq fun K1 hK1 => ?_
  cases hM

def plan_checkSyncs_m (l0 : Layout) (p0 : Plan) : Option Int :=
  none
theorem plan_checkSyncs_spec (S : Soup) (w : World) (l0 : Layout) (r_l0 : GoRep.R Layout) (p0 : Plan) (r_p0 : GoRep.R Plan) (y : Int) (hM : plan_checkSyncs_m l0 p0 = some y) (hS : ∀ k, S k → k < w.heap.size) (h_l0 : GoRep.ok S w r_l0 l0) (h_p0 : GoRep.ok S w r_p0 p0) :
    Calls Tryz.prog 38 #[.agg #[.slice r_l0.1.a l0.Stations.length r_l0.1.cap, .slice r_l0.2.1.a l0.Points.length r_l0.2.1.cap, .slice r_l0.2.2.1.a l0.Sections.length r_l0.2.2.1.cap, .slice r_l0.2.2.2.a l0.Links.length r_l0.2.2.2.cap], .agg #[.int .i64 p0.Period, .slice r_p0.1.a p0.Stocks.length r_p0.1.cap, .slice r_p0.2.1.a p0.Routes.length r_p0.2.1.cap, .slice r_p0.2.2.1.a p0.Lines.length r_p0.2.2.1.cap, .slice r_p0.2.2.2.1.a p0.Changes.length r_p0.2.2.2.1.cap, .slice r_p0.2.2.2.2.1.a p0.Turns.length r_p0.2.2.2.2.1.cap, .slice r_p0.2.2.2.2.2.1.a p0.Syncs.length r_p0.2.2.2.2.2.1.cap, .slice r_p0.2.2.2.2.2.2.a p0.Demands.length r_p0.2.2.2.2.2.2.cap]] w (Ret w (.int .i64 y)) := by
  refine calls_cw (args := [_, _]) Tryz.func38 rfl ((pre_nil hS).start |>.immP (α := List Str) (r := r_l0.1) (x := l0.Stations) h_l0.1|>.immP (α := List Str) (r := r_l0.2.1) (x := l0.Points) h_l0.2.1|>.immP (α := List Section) (r := r_l0.2.2.1) (x := l0.Sections) h_l0.2.2.1|>.immP (α := List Link) (r := r_l0.2.2.2) (x := l0.Links) h_l0.2.2.2|>.immP (α := List Stock) (r := r_p0.1) (x := p0.Stocks) h_p0.1|>.immP (α := List Route) (r := r_p0.2.1) (x := p0.Routes) h_p0.2.1|>.immP (α := List Line) (r := r_p0.2.2.1) (x := p0.Lines) h_p0.2.2.1|>.immP (α := List Change) (r := r_p0.2.2.2.1) (x := p0.Changes) h_p0.2.2.2.1|>.immP (α := List Turn) (r := r_p0.2.2.2.2.1) (x := p0.Turns) h_p0.2.2.2.2.1|>.immP (α := List Sync) (r := r_p0.2.2.2.2.2.1) (x := p0.Syncs) h_p0.2.2.2.2.2.1|>.immP (α := List Demand) (r := r_p0.2.2.2.2.2.2) (x := p0.Demands) h_p0.2.2.2.2.2.2) rfl ?_
  unfold plan_checkSyncs_m at hM
  refine cw_seq fun K1 hK1 => ?_
  cases hM

def plan_checkDemands_m (l0 : Layout) (p0 : Plan) : Option Int :=
  none
theorem plan_checkDemands_spec (S : Soup) (w : World) (l0 : Layout) (r_l0 : GoRep.R Layout) (p0 : Plan) (r_p0 : GoRep.R Plan) (y : Int) (hM : plan_checkDemands_m l0 p0 = some y) (hS : ∀ k, S k → k < w.heap.size) (h_l0 : GoRep.ok S w r_l0 l0) (h_p0 : GoRep.ok S w r_p0 p0) :
    Calls Tryz.prog 39 #[.agg #[.slice r_l0.1.a l0.Stations.length r_l0.1.cap, .slice r_l0.2.1.a l0.Points.length r_l0.2.1.cap, .slice r_l0.2.2.1.a l0.Sections.length r_l0.2.2.1.cap, .slice r_l0.2.2.2.a l0.Links.length r_l0.2.2.2.cap], .agg #[.int .i64 p0.Period, .slice r_p0.1.a p0.Stocks.length r_p0.1.cap, .slice r_p0.2.1.a p0.Routes.length r_p0.2.1.cap, .slice r_p0.2.2.1.a p0.Lines.length r_p0.2.2.1.cap, .slice r_p0.2.2.2.1.a p0.Changes.length r_p0.2.2.2.1.cap, .slice r_p0.2.2.2.2.1.a p0.Turns.length r_p0.2.2.2.2.1.cap, .slice r_p0.2.2.2.2.2.1.a p0.Syncs.length r_p0.2.2.2.2.2.1.cap, .slice r_p0.2.2.2.2.2.2.a p0.Demands.length r_p0.2.2.2.2.2.2.cap]] w (Ret w (.int .i64 y)) := by
  refine calls_cw (args := [_, _]) Tryz.func39 rfl ((pre_nil hS).start |>.immP (α := List Str) (r := r_l0.1) (x := l0.Stations) h_l0.1|>.immP (α := List Str) (r := r_l0.2.1) (x := l0.Points) h_l0.2.1|>.immP (α := List Section) (r := r_l0.2.2.1) (x := l0.Sections) h_l0.2.2.1|>.immP (α := List Link) (r := r_l0.2.2.2) (x := l0.Links) h_l0.2.2.2|>.immP (α := List Stock) (r := r_p0.1) (x := p0.Stocks) h_p0.1|>.immP (α := List Route) (r := r_p0.2.1) (x := p0.Routes) h_p0.2.1|>.immP (α := List Line) (r := r_p0.2.2.1) (x := p0.Lines) h_p0.2.2.1|>.immP (α := List Change) (r := r_p0.2.2.2.1) (x := p0.Changes) h_p0.2.2.2.1|>.immP (α := List Turn) (r := r_p0.2.2.2.2.1) (x := p0.Turns) h_p0.2.2.2.2.1|>.immP (α := List Sync) (r := r_p0.2.2.2.2.2.1) (x := p0.Syncs) h_p0.2.2.2.2.2.1|>.immP (α := List Demand) (r := r_p0.2.2.2.2.2.2) (x := p0.Demands) h_p0.2.2.2.2.2.2) rfl ?_
  unfold plan_checkDemands_m at hM
  refine cw_seq fun K1 hK1 => ?_
  cases hM

def plan_Check_sel (x : Nat) (l0 : Layout) (p0 : Plan) : Option Int :=
  if x = 32 then plan_checkSizes_m l0 p0
  else if x = 33 then plan_checkStocks_m l0 p0
  else if x = 34 then plan_checkRoutes_m l0 p0
  else if x = 35 then plan_checkLines_m l0 p0
  else if x = 36 then plan_checkChanges_m l0 p0
  else if x = 37 then plan_checkTurns_m l0 p0
  else if x = 38 then plan_checkSyncs_m l0 p0
  else if x = 39 then plan_checkDemands_m l0 p0
  else none
theorem plan_Check_sel_cal {i : Int} {x : Nat} (h : idx ([32, 33, 34, 35, 36, 37, 38, 39] : List Nat) i = some x) : callable Tryz.prog x = true := by
  have hm := List.mem_of_getElem? (idx_some h).2.2
  simp only [List.mem_cons, List.not_mem_nil, or_false] at hm
  rcases hm with rfl | rfl | rfl | rfl | rfl | rfl | rfl | rfl
  · exact (show callable Tryz.prog 32 = true by kernel_rfl)
  · exact (show callable Tryz.prog 33 = true by kernel_rfl)
  · exact (show callable Tryz.prog 34 = true by kernel_rfl)
  · exact (show callable Tryz.prog 35 = true by kernel_rfl)
  · exact (show callable Tryz.prog 36 = true by kernel_rfl)
  · exact (show callable Tryz.prog 37 = true by kernel_rfl)
  · exact (show callable Tryz.prog 38 = true by kernel_rfl)
  · exact (show callable Tryz.prog 39 = true by kernel_rfl)
theorem plan_Check_sel_spec (x : Nat) (S : Soup) (w : World) (l0 : Layout) (r_l0 : GoRep.R Layout) (p0 : Plan) (r_p0 : GoRep.R Plan) (y : Int) (hM : plan_Check_sel x l0 p0 = some y) (hS : ∀ k, S k → k < w.heap.size) (h_l0 : GoRep.ok S w r_l0 l0) (h_p0 : GoRep.ok S w r_p0 p0) :
    Calls Tryz.prog x #[.agg #[.slice r_l0.1.a l0.Stations.length r_l0.1.cap, .slice r_l0.2.1.a l0.Points.length r_l0.2.1.cap, .slice r_l0.2.2.1.a l0.Sections.length r_l0.2.2.1.cap, .slice r_l0.2.2.2.a l0.Links.length r_l0.2.2.2.cap], .agg #[.int .i64 p0.Period, .slice r_p0.1.a p0.Stocks.length r_p0.1.cap, .slice r_p0.2.1.a p0.Routes.length r_p0.2.1.cap, .slice r_p0.2.2.1.a p0.Lines.length r_p0.2.2.1.cap, .slice r_p0.2.2.2.1.a p0.Changes.length r_p0.2.2.2.1.cap, .slice r_p0.2.2.2.2.1.a p0.Turns.length r_p0.2.2.2.2.1.cap, .slice r_p0.2.2.2.2.2.1.a p0.Syncs.length r_p0.2.2.2.2.2.1.cap, .slice r_p0.2.2.2.2.2.2.a p0.Demands.length r_p0.2.2.2.2.2.2.cap]] w (Ret w (.int .i64 y)) := by
  unfold plan_Check_sel at hM
  split at hM
  · rename_i h; subst h; exact plan_checkSizes_spec S w l0 r_l0 p0 r_p0 y hM hS h_l0 h_p0
  split at hM
  · rename_i h; subst h; exact plan_checkStocks_spec S w l0 r_l0 p0 r_p0 y hM hS h_l0 h_p0
  split at hM
  · rename_i h; subst h; exact plan_checkRoutes_spec S w l0 r_l0 p0 r_p0 y hM hS h_l0 h_p0
  split at hM
  · rename_i h; subst h; exact plan_checkLines_spec S w l0 r_l0 p0 r_p0 y hM hS h_l0 h_p0
  split at hM
  · rename_i h; subst h; exact plan_checkChanges_spec S w l0 r_l0 p0 r_p0 y hM hS h_l0 h_p0
  split at hM
  · rename_i h; subst h; exact plan_checkTurns_spec S w l0 r_l0 p0 r_p0 y hM hS h_l0 h_p0
  split at hM
  · rename_i h; subst h; exact plan_checkSyncs_spec S w l0 r_l0 p0 r_p0 y hM hS h_l0 h_p0
  split at hM
  · rename_i h; subst h; exact plan_checkDemands_spec S w l0 r_l0 p0 r_p0 y hM hS h_l0 h_p0
  cases hM
def plan_Check_k1 : Unit → Option Int := fun _ =>
  some 0
def plan_Check_b1 (l0 : Layout) (p0 : Plan) (cont1 : Nat → Option Int) : Nat → Option Int := fun t11_1 =>
  if decide ((t11_1 : Int) < 8) then
    ((idx ([32, 33, 34, 35, 36, 37, 38, 39] : List Nat) (t11_1 : Int)).bind fun x5 =>
    (plan_Check_sel x5 l0 p0).bind fun y7 =>
    if decide (y7 ≠ 0) then
      (some y7)
    else
      (cont1 (t11_1 + 1)))
  else
    (plan_Check_k1 ())
def plan_Check_m (l0 : Layout) (p0 : Plan) : Option Int :=
  iter (plan_Check_b1 l0 p0) FUEL 0
theorem plan_Check_spec (S : Soup) (w : World) (l0 : Layout) (r_l0 : GoRep.R Layout) (p0 : Plan) (r_p0 : GoRep.R Plan) (y : Int) (hM : plan_Check_m l0 p0 = some y) (hS : ∀ k, S k → k < w.heap.size) (h_l0 : GoRep.ok S w r_l0 l0) (h_p0 : GoRep.ok S w r_p0 p0) :
    Calls Tryz.prog 13 #[.agg #[.slice r_l0.1.a l0.Stations.length r_l0.1.cap, .slice r_l0.2.1.a l0.Points.length r_l0.2.1.cap, .slice r_l0.2.2.1.a l0.Sections.length r_l0.2.2.1.cap, .slice r_l0.2.2.2.a l0.Links.length r_l0.2.2.2.cap], .agg #[.int .i64 p0.Period, .slice r_p0.1.a p0.Stocks.length r_p0.1.cap, .slice r_p0.2.1.a p0.Routes.length r_p0.2.1.cap, .slice r_p0.2.2.1.a p0.Lines.length r_p0.2.2.1.cap, .slice r_p0.2.2.2.1.a p0.Changes.length r_p0.2.2.2.1.cap, .slice r_p0.2.2.2.2.1.a p0.Turns.length r_p0.2.2.2.2.1.cap, .slice r_p0.2.2.2.2.2.1.a p0.Syncs.length r_p0.2.2.2.2.2.1.cap, .slice r_p0.2.2.2.2.2.2.a p0.Demands.length r_p0.2.2.2.2.2.2.cap]] w (Ret w (.int .i64 y)) := by
  refine calls_cw (args := [_, _]) Tryz.func13 rfl ((pre_nil hS).start |>.immP (α := List Str) (r := r_l0.1) (x := l0.Stations) h_l0.1|>.immP (α := List Str) (r := r_l0.2.1) (x := l0.Points) h_l0.2.1|>.immP (α := List Section) (r := r_l0.2.2.1) (x := l0.Sections) h_l0.2.2.1|>.immP (α := List Link) (r := r_l0.2.2.2) (x := l0.Links) h_l0.2.2.2|>.immP (α := List Stock) (r := r_p0.1) (x := p0.Stocks) h_p0.1|>.immP (α := List Route) (r := r_p0.2.1) (x := p0.Routes) h_p0.2.1|>.immP (α := List Line) (r := r_p0.2.2.1) (x := p0.Lines) h_p0.2.2.1|>.immP (α := List Change) (r := r_p0.2.2.2.1) (x := p0.Changes) h_p0.2.2.2.1|>.immP (α := List Turn) (r := r_p0.2.2.2.2.1) (x := p0.Turns) h_p0.2.2.2.2.1|>.immP (α := List Sync) (r := r_p0.2.2.2.2.2.1) (x := p0.Syncs) h_p0.2.2.2.2.2.1|>.immP (α := List Demand) (r := r_p0.2.2.2.2.2.2) (x := p0.Demands) h_p0.2.2.2.2.2.2) rfl ?_
  unfold plan_Check_m at hM
  refine cw_seq fun K1 hK1 => ?_
  refine cw_region ?_
  refine ow_cons (st_box (l := [.slice r_l0.1.a l0.Stations.length r_l0.1.cap, .slice r_l0.2.1.a l0.Points.length r_l0.2.1.cap, .slice r_l0.2.2.1.a l0.Sections.length r_l0.2.2.1.cap, .slice r_l0.2.2.2.a l0.Links.length r_l0.2.2.2.cap]) (k := fun b1 => ?_))
  refine ow_cons (st_box (l := [.int .i64 p0.Period, .slice r_p0.1.a p0.Stocks.length r_p0.1.cap, .slice r_p0.2.1.a p0.Routes.length r_p0.2.1.cap, .slice r_p0.2.2.1.a p0.Lines.length r_p0.2.2.1.cap, .slice r_p0.2.2.2.1.a p0.Changes.length r_p0.2.2.2.1.cap, .slice r_p0.2.2.2.2.1.a p0.Turns.length r_p0.2.2.2.2.1.cap, .slice r_p0.2.2.2.2.2.1.a p0.Syncs.length r_p0.2.2.2.2.2.1.cap, .slice r_p0.2.2.2.2.2.2.a p0.Demands.length r_p0.2.2.2.2.2.2.cap]) (k := fun b2 => ?_))
  refine ow_ev ev_assign ?_
  refine ow_nil (hK1 _ _ ?_); clear hK1
  refine cw_seq fun K2 hK2 => ?_
  refine cw_region ?_
  refine ow_ev (ev_build [.func (.func 32) #[] #[], .func (.func 33) #[] #[], .func (.func 34) #[] #[], .func (.func 35) #[] #[], .func (.func 36) #[] #[], .func (.func 37) #[] #[], .func (.func 38) #[] #[], .func (.func 39) #[] #[]]) ?_
  refine ow_cons (st_alloc rfl (k := fun b3 => ?_))
  refine ow_cons (st_store_all (b := b3) (vs := [.func (.func 32) #[] #[], .func (.func 33) #[] #[], .func (.func 34) #[] #[], .func (.func 35) #[] #[], .func (.func 36) #[] #[], .func (.func 37) #[] #[], .func (.func 38) #[] #[], .func (.func 39) #[] #[]]) (k := ?_))
  refine ow_nil (hK2 _ _ ?_); clear hK2
  refine cw_seq fun K3 hK3 => ?_
  refine cw_seq fun K4 hK4 => ?_
  refine cw_region ?_
  refine ow_ev (ev_load_all (b := b3)) ?_
  refine ow_ev ev_move ?_
  refine ow_nil (hK4 _ _ ?_); clear hK4
  refine cw_block ?_
  refine cw_loop (γ := Nat × Nat × Unit) (env := fun (_, t11_1, _) => [(2, .v (.pointer (some ⟨b1, 0, none⟩))), (3, .v (.pointer (some ⟨b2, 0, none⟩))), (10, .v (.agg #[.func (.func 32) #[] #[], .func (.func 33) #[] #[], .func (.func 34) #[] #[], .func (.func 35) #[] #[], .func (.func 36) #[] #[], .func (.func 37) #[] #[], .func (.func 38) #[] #[], .func (.func 39) #[] #[]])), (11, .v (.int .i64 (t11_1 : Int)))]) (mem := fun (_, t11_1, _) => [imm (α := (List Str)) r_l0.1 l0.Stations, imm (α := (List Str)) r_l0.2.1 l0.Points, imm (α := (List Section)) r_l0.2.2.1 l0.Sections, imm (α := (List Link)) r_l0.2.2.2 l0.Links, own b1 26 [.slice r_l0.1.a l0.Stations.length r_l0.1.cap, .slice r_l0.2.1.a l0.Points.length r_l0.2.1.cap, .slice r_l0.2.2.1.a l0.Sections.length r_l0.2.2.1.cap, .slice r_l0.2.2.2.a l0.Links.length r_l0.2.2.2.cap], imm (α := (List Stock)) r_p0.1 p0.Stocks, imm (α := (List Route)) r_p0.2.1 p0.Routes, imm (α := (List Line)) r_p0.2.2.1 p0.Lines, imm (α := (List Change)) r_p0.2.2.2.1 p0.Changes, imm (α := (List Turn)) r_p0.2.2.2.2.1 p0.Turns, imm (α := (List Sync)) r_p0.2.2.2.2.2.1 p0.Syncs, imm (α := (List Demand)) r_p0.2.2.2.2.2.2 p0.Demands, own b2 35 [.int .i64 p0.Period, .slice r_p0.1.a p0.Stocks.length r_p0.1.cap, .slice r_p0.2.1.a p0.Routes.length r_p0.2.1.cap, .slice r_p0.2.2.1.a p0.Lines.length r_p0.2.2.1.cap, .slice r_p0.2.2.2.1.a p0.Changes.length r_p0.2.2.2.1.cap, .slice r_p0.2.2.2.2.1.a p0.Turns.length r_p0.2.2.2.2.1.cap, .slice r_p0.2.2.2.2.2.1.a p0.Syncs.length r_p0.2.2.2.2.2.1.cap, .slice r_p0.2.2.2.2.2.2.a p0.Demands.length r_p0.2.2.2.2.2.2.cap]]) (R := fun g => iter (plan_Check_b1 l0 p0) g.1 g.2.1 = some y) (μ := fun g => g.1) (FUEL, 0, ()) hM ⟨rfl, rfl, rfl, rfl, trivial⟩ (fun w hm => hm.reord) ?_
  clear hM
  intro g hM KL1 hL1
  obtain ⟨nn1, t11_1, ⟨⟩⟩ := g
  dsimp only at hM ⊢
  obtain ⟨nn1, cont1, rfl, hcont1, hM⟩ := iter_open' hM
  dsimp only [plan_Check_b1] at hM
  refine cw_seq fun K5 hK5 => ?_
  refine cw_region ?_
  refine ow_ev ev_lss ?_
  refine ow_nil (hK5 _ _ ?_); clear hK5
  refine cw_seq fun K6 hK6 => ?_
  refine cw_cond rfl (fun hc4 => ?_) (fun hc4 => ?_)
  ·
    replace hM := (ite_t hc4).symm.trans hM
    have hc4d := of_decide_eq_true hc4
    refine cw_skip (hK6 _ _ ?_); clear hK6
    refine cw_seq fun K7 hK7 => ?_
    refine cw_block ?_
    refine cw_seq fun K8 hK8 => ?_
    refine cw_region ?_
    obtain ⟨x5, hx6, hM⟩ := bind_some hM
    refine ow_ev (ev_fidx (xs := ([32, 33, 34, 35, 36, 37, 38, 39] : List Nat)) [.func (.func 32) #[] #[], .func (.func 33) #[] #[], .func (.func 34) #[] #[], .func (.func 35) #[] #[], .func (.func 36) #[] #[], .func (.func 37) #[] #[], .func (.func 38) #[] #[], .func (.func 39) #[] #[]] (fun _ => hx6)) ?_
    refine ow_ev ev_assign ?_
    refine ow_nil (hK8 _ _ ?_); clear hK8
    refine cw_seq fun K9 hK9 => ?_
    refine cw_region ?_
    refine ow_ev ev_move ?_
    refine ow_ev (ev_load_all (b := b1)) ?_
    refine ow_ev (ev_load_all (b := b2)) ?_
    obtain ⟨y7, hy8, hM⟩ := bind_some hM
    refine ow_cons (st_dynv (vs := [.agg #[.slice r_l0.1.a l0.Stations.length r_l0.1.cap, .slice r_l0.2.1.a l0.Points.length r_l0.2.1.cap, .slice r_l0.2.2.1.a l0.Sections.length r_l0.2.2.1.cap, .slice r_l0.2.2.2.a l0.Links.length r_l0.2.2.2.cap], .agg #[.int .i64 p0.Period, .slice r_p0.1.a p0.Stocks.length r_p0.1.cap, .slice r_p0.2.1.a p0.Routes.length r_p0.2.1.cap, .slice r_p0.2.2.1.a p0.Lines.length r_p0.2.2.1.cap, .slice r_p0.2.2.2.1.a p0.Changes.length r_p0.2.2.2.1.cap, .slice r_p0.2.2.2.2.1.a p0.Turns.length r_p0.2.2.2.2.1.cap, .slice r_p0.2.2.2.2.2.1.a p0.Syncs.length r_p0.2.2.2.2.2.1.cap, .slice r_p0.2.2.2.2.2.2.a p0.Demands.length r_p0.2.2.2.2.2.2.cap]]) (cap := []) (hf := plan_Check_sel_cal hx6) (fun w hm => let ⟨S, hs⟩ := hm; plan_Check_sel_spec x5 _ w l0 r_l0 p0 r_p0 y7 hy8 (lend_lt hs) ⟨(Kn.lend (Kn.imm (α := List Str) (r := r_l0.1) (x := l0.Stations) (by repeat (first | exact Has.head | apply Has.tail))) hs), (Kn.lend (Kn.imm (α := List Str) (r := r_l0.2.1) (x := l0.Points) (by repeat (first | exact Has.head | apply Has.tail))) hs), (Kn.lend (Kn.imm (α := List Section) (r := r_l0.2.2.1) (x := l0.Sections) (by repeat (first | exact Has.head | apply Has.tail))) hs), (Kn.lend (Kn.imm (α := List Link) (r := r_l0.2.2.2) (x := l0.Links) (by repeat (first | exact Has.head | apply Has.tail))) hs)⟩ ⟨(Kn.lend (Kn.imm (α := List Stock) (r := r_p0.1) (x := p0.Stocks) (by repeat (first | exact Has.head | apply Has.tail))) hs), (Kn.lend (Kn.imm (α := List Route) (r := r_p0.2.1) (x := p0.Routes) (by repeat (first | exact Has.head | apply Has.tail))) hs), (Kn.lend (Kn.imm (α := List Line) (r := r_p0.2.2.1) (x := p0.Lines) (by repeat (first | exact Has.head | apply Has.tail))) hs), (Kn.lend (Kn.imm (α := List Change) (r := r_p0.2.2.2.1) (x := p0.Changes) (by repeat (first | exact Has.head | apply Has.tail))) hs), (Kn.lend (Kn.imm (α := List Turn) (r := r_p0.2.2.2.2.1) (x := p0.Turns) (by repeat (first | exact Has.head | apply Has.tail))) hs), (Kn.lend (Kn.imm (α := List Sync) (r := r_p0.2.2.2.2.2.1) (x := p0.Syncs) (by repeat (first | exact Has.head | apply Has.tail))) hs), (Kn.lend (Kn.imm (α := List Demand) (r := r_p0.2.2.2.2.2.2) (x := p0.Demands) (by repeat (first | exact Has.head | apply Has.tail))) hs)⟩) ?_)
    refine ow_ev ev_assign ?_
    refine ow_nil (hK9 _ _ ?_); clear hK9
    refine cw_seq fun K10 hK10 => ?_
    refine cw_region ?_
    refine ow_ev ev_move ?_
    refine ow_ev ev_neq ?_
    refine ow_nil (hK10 _ _ ?_); clear hK10
    refine cw_cond rfl (fun hc9 => ?_) (fun hc9 => ?_)
    ·
      replace hM := (ite_t hc9).symm.trans hM
      refine cw_seq fun K11 hK11 => ?_
      refine cw_region ?_
      refine ow_ev ev_move ?_
      refine ow_ev ev_assign ?_
      refine ow_nil (hK11 _ _ ?_); clear hK11
      obtain rfl := some_inj hM
      refine cw_ret (kw_retc1 (fun w hm => ret_of hm rfl))
    ·
      replace hM := (ite_f hc9).symm.trans hM
      refine cw_skip (hK7 _ _ ?_); clear hK7
      refine cw_region ?_
      refine ow_ev (ev_add (hr := fun _ => by unfold I64; omega)) ?_
      refine ow_ev ev_move ?_
      refine ow_nil (hL1 (nn1, (t11_1 + 1), ()) _ _ (eqc hcont1 hM) (Nat.lt_succ_self _) ⟨rfl, rfl, rfl, rfl, trivial⟩ (fun w hm => hm.reord))
  ·
    replace hM := (ite_f hc4).symm.trans hM
    refine cw_exit (hK3 _ _ ?_); clear hK3
    dsimp only [plan_Check_k1] at hM
    refine cw_seq fun K12 hK12 => ?_
    refine cw_region ?_
    refine ow_ev ev_assign ?_
    refine ow_nil (hK12 _ _ ?_); clear hK12
    obtain rfl := some_inj hM
    refine cw_ret (kw_retc1 (fun w hm => ret_of hm rfl))

end Go.Proofs.YtcalibhfgdncaaaGreatDoor

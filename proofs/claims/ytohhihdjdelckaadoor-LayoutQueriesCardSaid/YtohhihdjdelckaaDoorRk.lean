/- Models of functions, and that the code computes them. -/
import Derived.Test.YtohhihdjdelckaaDoorTypes
set_option linter.all false
namespace Go.Proofs.YtohhihdjdelckaaDoor
open Go.Dc Go.RowKit
set_option maxRecDepth 10000
def keep_Pick_m (v0 : Int) (n0 : Int) : Option Int :=
  chk (decide ((IntKind.u64.wrap n0) ≠ 0)) <|
  some (IntKind.i64.wrap ((IntKind.u64.wrap v0).tmod (IntKind.u64.wrap n0)))
theorem keep_Pick_spec (S : Soup) (w : World) (v0 : Int) (n0 : Int) (y : Int) (hM : keep_Pick_m v0 n0 = some y) (hS : ∀ k, S k → k < w.heap.size)  :
    Calls Tryd.prog 18 #[.int .i64 v0, .int .i64 n0] w (Ret w (.int .i64 y)) := by
  refine calls_cw (args := [_, _]) Tryd.func18 rfl ((pre_nil hS).start) rfl ?_
  unfold keep_Pick_m at hM
  refine cw_seq fun K1 hK1 => ?_
  refine cw_region ?_
  refine ow_ev ev_assign ?_
  refine ow_nil (hK1 _ _ ?_); clear hK1
  refine cw_seq fun K2 hK2 => ?_
  refine cw_region ?_
  refine ow_ev ev_move ?_
  refine ow_ev (ev_convert_int .u64) ?_
  refine ow_ev ev_move ?_
  refine ow_ev (ev_convert_int .u64) ?_
  obtain ⟨hI1, hM⟩ := chk_some hM
  refine ow_ev (ev_rem (hq := fun hg => of_decide_eq_true hI1)) ?_
  refine ow_ev (ev_convert_int .i64) ?_
  refine ow_ev ev_assign ?_
  refine ow_nil (hK2 _ _ ?_); clear hK2
  obtain rfl := some_inj hM
  refine cw_ret (kw_retc1 (fun w hm => ret_of hm rfl))

def keep_From_m (l0 : List Int) : Option Keep_Source :=
  some (Keep_Source.mk l0 0)
theorem keep_From_spec (S : Soup) (w : World) (l0 : List Int) (r_l0 : GoRep.R (List Int)) (y : Keep_Source) (hM : keep_From_m l0 = some y) (hS : ∀ k, S k → k < w.heap.size) (h_l0 : GoRep.ok S w r_l0 l0) :
    Calls Tryd.prog 34 #[.slice r_l0.a l0.length r_l0.cap] w (Post (β := Nat × (GoRep.R (List Int))) S [] (fun g => .pointer (some ⟨g.1, 0, none⟩)) (fun g => [own g.1 106 [.slice g.2.a y.l.length g.2.cap, .int .i64 y.i], imm (α := (List Int)) g.2 y.l]) w) := by
  refine calls_cw (args := [_]) Tryd.func34 rfl ((pre_nil hS).start |>.immP (α := List Int) (r := r_l0) (x := l0) h_l0) rfl ?_
  unfold keep_From_m at hM
  refine cw_seq fun K1 hK1 => ?_
  refine cw_region ?_
  refine ow_ev ev_assign ?_
  refine ow_nil (hK1 _ _ ?_); clear hK1
  refine cw_seq fun K2 hK2 => ?_
  refine cw_region ?_
  refine ow_ev ev_move ?_
  refine ow_ev (ev_build [.slice r_l0.a l0.length r_l0.cap, .int .i64 0]) ?_
  refine ow_cons (st_box (l := [.slice r_l0.a l0.length r_l0.cap, .int .i64 0]) (k := fun b1 => ?_))
  refine ow_ev ev_assign ?_
  refine ow_nil (hK2 _ _ ?_); clear hK2
  obtain rfl := some_inj hM
  refine cw_ret (kw_retc1 (fun w hm => post_of (b1, r_l0) hm rfl))

def keep_Source_Next_m (s0 : Keep_Source) (n0 : Int) : Option (Int × Int) :=
  if decide ((s0.l.length : Int) ≤ s0.i) then
    (some (0, s0.i))
  else
    (chk (i64b (s0.i + 1)) <|
    chk (i64b ((s0.i + 1) - 1)) <|
    (idx s0.l ((s0.i + 1) - 1)).bind fun x4 =>
    (keep_Pick_m x4 n0).bind fun y6 =>
    some (y6, (s0.i + 1)))
theorem keep_Source_Next_spec (S : Soup) (w : World) (b_s0 : Nat) (s0 : Keep_Source) (r_s0 : GoRep.R Keep_Source) (n0 : Int) (y : Int × Int) (hM : keep_Source_Next_m s0 n0 = some y) (hP : Pre S [own b_s0 106 [.slice r_s0.a s0.l.length r_s0.cap, .int .i64 s0.i]] w) (h_s0_0 : GoRep.ok (α := List Int) S w r_s0 s0.l) :
    Calls Tryd.prog 55 #[.pointer (some ⟨b_s0, 0, none⟩), .int .i64 n0] w (Post (β := Unit) S [own b_s0 106 [.slice r_s0.a s0.l.length r_s0.cap, .int .i64 s0.i]] (fun g => .int .i64 y.1) (fun g => [own b_s0 106 [.slice r_s0.a s0.l.length r_s0.cap, .int .i64 y.2]]) w) := by
  refine calls_cw (args := [_, _]) Tryd.func55 rfl (hP.start |>.immP (α := List Int) (r := r_s0) (x := s0.l) h_s0_0) rfl ?_
  unfold keep_Source_Next_m at hM
  refine cw_seq fun K1 hK1 => ?_
  refine cw_region ?_
  refine ow_ev ev_assign ?_
  refine ow_nil (hK1 _ _ ?_); clear hK1
  refine cw_seq fun K2 hK2 => ?_
  refine cw_seq fun K3 hK3 => ?_
  refine cw_region_any _ (List.Sublist.refl _) ?_
  refine aw_ev 0 rfl ev_move ?_
  refine aw_ev 1 rfl ev_nilcheck ?_
  refine aw_ev 2 rfl (ev_field_addr 1) ?_
  refine aw_ev 3 rfl (ev_load_own (b := b_s0)) ?_
  refine aw_ev 4 rfl ev_move ?_
  refine aw_ev 5 rfl ev_nilcheck ?_
  refine aw_ev 6 rfl (ev_field_addr 0) ?_
  refine aw_ev 7 rfl (ev_load_own (b := b_s0)) ?_
  refine aw_ev 8 rfl ev_len ?_
  refine aw_ev 9 rfl ev_geq ?_
  refine aw_done (hK3 _ _ ?_); clear hK3
  refine cw_cond rfl (fun hc1 => ?_) (fun hc1 => ?_)
  ·
    replace hM := (ite_t hc1).symm.trans hM
    refine cw_seq fun K4 hK4 => ?_
    refine cw_region ?_
    refine ow_ev ev_assign ?_
    refine ow_nil (hK4 _ _ ?_); clear hK4
    obtain rfl := some_inj hM
    refine cw_ret (kw_retc1 (fun w hm => post_of () hm rfl))
  ·
    replace hM := (ite_f hc1).symm.trans hM
    refine cw_skip (hK2 _ _ ?_); clear hK2
    refine cw_seq fun K5 hK5 => ?_
    refine cw_region ?_
    refine ow_ev ev_move ?_
    refine ow_ev ev_nilcheck ?_
    refine ow_ev (ev_field_addr 1) ?_
    refine ow_ev (ev_load_own (b := b_s0)) ?_
    obtain ⟨hI2, hM⟩ := chk_some hM
    refine ow_ev (ev_add (hr := fun hg => i64b_I64 hI2)) ?_
    refine ow_ev ev_nilcheck ?_
    refine ow_ev (ev_field_addr 1) ?_
    refine ow_cons (st_store_own (b := b_s0) (l' := [.slice r_s0.a s0.l.length r_s0.cap, .int .i64 (s0.i + 1)]) (k := ?_))
    refine ow_nil (hK5 _ _ ?_); clear hK5
    refine cw_seq fun K6 hK6 => ?_
    refine cw_region_any _ (List.Sublist.refl _) ?_
    refine aw_ev 0 rfl ev_move ?_
    refine aw_ev 1 rfl ev_nilcheck ?_
    refine aw_ev 2 rfl (ev_field_addr 0) ?_
    refine aw_ev 3 rfl (ev_load_own (b := b_s0)) ?_
    refine aw_ev 4 rfl ev_move ?_
    refine aw_ev 5 rfl ev_nilcheck ?_
    refine aw_ev 6 rfl (ev_field_addr 1) ?_
    refine aw_ev 7 rfl (ev_load_own (b := b_s0)) ?_
    obtain ⟨hI3, hM⟩ := chk_some hM
    refine aw_ev 8 rfl (ev_sub (hr := fun hg => i64b_I64 hI3)) ?_
    obtain ⟨x4, hx5, hM⟩ := bind_some hM
    refine aw_ev 9 rfl (ev_idx (xs := s0.l) 1 (Kn.imm (α := List Int) (r := r_s0) (x := s0.l) (by repeat (first | exact Has.head | apply Has.tail))) (fun hg => let h := idx_some hx5; ⟨h.1, h.2.1⟩)) ?_
    refine aw_ev 10 rfl (ev_ld (i := ((s0.i + 1) - 1)) (xs := s0.l) (y := x4) 0 (Kn.imm (α := List Int) (r := r_s0) (x := s0.l) (by repeat (first | exact Has.head | apply Has.tail))) (fun _ => hx5)) ?_
    refine aw_ev 11 rfl ev_move ?_
    obtain ⟨y6, hy7, hM⟩ := bind_some hM
    refine aw_one 12 rfl (st_callv (fun w hm => let ⟨S, hs⟩ := hm; keep_Pick_spec _ w x4 n0 y6 hy7 (lend_lt hs) ) ⟨fun w hm => hm.sub (by repeat (first | exact List.Sublist.refl _ | apply List.Sublist.cons_cons | apply List.Sublist.cons)), ?_⟩)
    refine aw_ev 13 rfl ev_assign ?_
    refine aw_done (hK6 _ _ ?_); clear hK6
    obtain rfl := some_inj hM
    refine cw_ret (kw_retc1 (fun w hm => post_of () hm rfl))

end Go.Proofs.YtohhihdjdelckaaDoor

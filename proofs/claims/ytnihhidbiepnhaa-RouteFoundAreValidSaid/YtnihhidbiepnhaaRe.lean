/- Models of functions, and that the code computes them. -/
import Derived.Test.YtnihhidbiepnhaaRd
namespace Go.Proofs.Ytnihhidbiepnhaa
open Go.Dc Go.RowKit
set_option maxRecDepth 10000
set_option linter.unusedVariables false
def bits_Mul64_m (x0 : Int) (p1 : Int) : Option (Int × Int) :=
  some ((IntKind.u64.wrap ((IntKind.u64.wrap ((IntKind.u64.wrap ((shrI .u64 x0 32) * (shrI .u64 p1 32))) + (shrI .u64 (IntKind.u64.wrap ((IntKind.u64.wrap ((shrI .u64 x0 32) * (bitsAnd .u64 p1 4294967295))) + (shrI .u64 (IntKind.u64.wrap ((bitsAnd .u64 x0 4294967295) * (bitsAnd .u64 p1 4294967295))) 32))) 32))) + (shrI .u64 (IntKind.u64.wrap ((bitsAnd .u64 (IntKind.u64.wrap ((IntKind.u64.wrap ((shrI .u64 x0 32) * (bitsAnd .u64 p1 4294967295))) + (shrI .u64 (IntKind.u64.wrap ((bitsAnd .u64 x0 4294967295) * (bitsAnd .u64 p1 4294967295))) 32))) 4294967295) + (IntKind.u64.wrap ((bitsAnd .u64 x0 4294967295) * (shrI .u64 p1 32))))) 32))), (IntKind.u64.wrap (x0 * p1)))
theorem bits_Mul64_spec (S : Soup) (w : World) (x0 : Int) (p1 : Int) (y : Int × Int) (hM : bits_Mul64_m x0 p1 = some y) (hS : ∀ k, S k → k < w.heap.size)  :
    Calls Try.prog 102 #[.int .u64 x0, .int .u64 p1] w (Ret w (.tuple #[.int .u64 y.1, .int .u64 y.2])) := by
  refine calls_cw (args := [_, _]) Try.func102 rfl ((pre_nil hS).start) rfl ?_
  unfold bits_Mul64_m at hM
  refine cw_seq fun K1 hK1 => ?_
  refine cw_region ?_
  refine ow_ev ev_assign ?_
  refine ow_ev ev_assign ?_
  refine ow_nil (hK1 _ _ ?_); clear hK1
  refine cw_seq fun K2 hK2 => ?_
  refine cw_region ?_
  refine ow_ev ev_move ?_
  refine ow_ev ev_and' ?_
  refine ow_ev ev_assign ?_
  refine ow_nil (hK2 _ _ ?_); clear hK2
  refine cw_seq fun K3 hK3 => ?_
  refine cw_region ?_
  refine ow_ev ev_move ?_
  refine ow_ev (ev_shr' (q := 32) (fun _ => by decide)) ?_
  refine ow_ev ev_assign ?_
  refine ow_nil (hK3 _ _ ?_); clear hK3
  refine cw_seq fun K4 hK4 => ?_
  refine cw_region ?_
  refine ow_ev ev_move ?_
  refine ow_ev ev_and' ?_
  refine ow_ev ev_assign ?_
  refine ow_nil (hK4 _ _ ?_); clear hK4
  refine cw_seq fun K5 hK5 => ?_
  refine cw_region ?_
  refine ow_ev ev_move ?_
  refine ow_ev (ev_shr' (q := 32) (fun _ => by decide)) ?_
  refine ow_ev ev_assign ?_
  refine ow_nil (hK5 _ _ ?_); clear hK5
  refine cw_seq fun K6 hK6 => ?_
  refine cw_region ?_
  refine ow_ev ev_move ?_
  refine ow_ev ev_move ?_
  refine ow_ev ev_mulw ?_
  refine ow_ev ev_assign ?_
  refine ow_nil (hK6 _ _ ?_); clear hK6
  refine cw_seq fun K7 hK7 => ?_
  refine cw_region ?_
  refine ow_ev ev_move ?_
  refine ow_ev ev_move ?_
  refine ow_ev ev_mulw ?_
  refine ow_ev ev_move ?_
  refine ow_ev (ev_shr' (q := 32) (fun _ => by decide)) ?_
  refine ow_ev ev_addw ?_
  refine ow_ev ev_assign ?_
  refine ow_nil (hK7 _ _ ?_); clear hK7
  refine cw_seq fun K8 hK8 => ?_
  refine cw_region ?_
  refine ow_ev ev_move ?_
  refine ow_ev ev_and' ?_
  refine ow_ev ev_assign ?_
  refine ow_nil (hK8 _ _ ?_); clear hK8
  refine cw_seq fun K9 hK9 => ?_
  refine cw_region ?_
  refine ow_ev ev_move ?_
  refine ow_ev (ev_shr' (q := 32) (fun _ => by decide)) ?_
  refine ow_ev ev_assign ?_
  refine ow_nil (hK9 _ _ ?_); clear hK9
  refine cw_seq fun K10 hK10 => ?_
  refine cw_region ?_
  refine ow_ev ev_move ?_
  refine ow_ev ev_move ?_
  refine ow_ev ev_move ?_
  refine ow_ev ev_mulw ?_
  refine ow_ev ev_addw ?_
  refine ow_ev ev_assign ?_
  refine ow_nil (hK10 _ _ ?_); clear hK10
  refine cw_seq fun K11 hK11 => ?_
  refine cw_region ?_
  refine ow_ev ev_move ?_
  refine ow_ev ev_move ?_
  refine ow_ev ev_mulw ?_
  refine ow_ev ev_move ?_
  refine ow_ev ev_addw ?_
  refine ow_ev ev_move ?_
  refine ow_ev (ev_shr' (q := 32) (fun _ => by decide)) ?_
  refine ow_ev ev_addw ?_
  refine ow_ev ev_assign ?_
  refine ow_nil (hK11 _ _ ?_); clear hK11
  refine cw_seq fun K12 hK12 => ?_
  refine cw_region ?_
  refine ow_ev ev_move ?_
  refine ow_ev ev_move ?_
  refine ow_ev ev_mulw ?_
  refine ow_ev ev_assign ?_
  refine ow_nil (hK12 _ _ ?_); clear hK12
  obtain rfl := some_inj hM
  refine cw_ret (kw_retc2 (fun w hm => ret_of hm rfl))

def bits_Mul_m (x0 : Int) (p1 : Int) : Option (Int × Int) :=
  (bits_Mul64_m x0 p1).bind fun y1 =>
  some (y1.1, y1.2)
theorem bits_Mul_spec (S : Soup) (w : World) (x0 : Int) (p1 : Int) (y : Int × Int) (hM : bits_Mul_m x0 p1 = some y) (hS : ∀ k, S k → k < w.heap.size)  :
    Calls Try.prog 80 #[.int .u64 x0, .int .u64 p1] w (Ret w (.tuple #[.int .u64 y.1, .int .u64 y.2])) := by
  refine calls_cw (args := [_, _]) Try.func80 rfl ((pre_nil hS).start) rfl ?_
  unfold bits_Mul_m at hM
  refine cw_seq fun K1 hK1 => ?_
  refine cw_region ?_
  refine ow_ev ev_assign ?_
  refine ow_ev ev_assign ?_
  refine ow_nil (hK1 _ _ ?_); clear hK1
  refine cw_seq fun K2 hK2 => ?_
  refine cw_cond_false rfl rfl ?_
  refine cw_skip (hK2 _ _ ?_); clear hK2
  refine cw_seq fun K3 hK3 => ?_
  refine cw_region ?_
  refine ow_ev ev_move ?_
  refine ow_ev ev_move ?_
  obtain ⟨y1, hy2, hM⟩ := bind_some hM
  refine ow_cons (st_callv (fun w hm => let ⟨S, hs⟩ := hm; bits_Mul64_spec _ w x0 p1 y1 hy2 (lend_lt hs) ) ?_)
  refine ow_ev ev_move ?_
  refine ow_ev (ev_extract (vs := [.int .u64 y1.1, .int .u64 y1.2])) ?_
  refine ow_ev (ev_extract (vs := [.int .u64 y1.1, .int .u64 y1.2])) ?_
  refine ow_ev ev_assign ?_
  refine ow_ev ev_assign ?_
  refine ow_nil (hK3 _ _ ?_); clear hK3
  refine cw_seq fun K4 hK4 => ?_
  refine cw_region ?_
  refine ow_ev ev_move ?_
  refine ow_ev ev_move ?_
  refine ow_ev ev_assign ?_
  refine ow_ev ev_assign ?_
  refine ow_nil (hK4 _ _ ?_); clear hK4
  obtain rfl := some_inj hM
  refine cw_ret (kw_retc2 (fun w hm => ret_of hm rfl))

def slices_Repeat_api_Cell_api_Cell_k3 (lnewslice_1 : List Cell) : Unit → Option (List Cell) := fun _ =>
  some lnewslice_1
def slices_Repeat_api_Cell_api_Cell_b1 (cont1 : ((List Cell) × Int) → Option (List Cell)) : ((List Cell) × Int) → Option (List Cell) := fun (lnewslice_1, n_1) =>
  if decide (n_1 < (lnewslice_1.length : Int)) then
    ((sub lnewslice_1 n_1 (lnewslice_1.length : Int)).bind fun l9 =>
    (sub lnewslice_1 0 n_1).bind fun l12 =>
    (cpyM lnewslice_1 (n_1.toNat) l9.length l12).bind fun l15 =>
    chk (i64b (n_1 + ((Nat.min l12.length l9.length : Nat) : Int))) <|
    cont1 (l15, (n_1 + ((Nat.min l12.length l9.length : Nat) : Int))))
  else
    (slices_Repeat_api_Cell_api_Cell_k3 lnewslice_1 ())
def slices_Repeat_api_Cell_api_Cell_k2 (y1 : Int × Int) (x0 : List Cell) : Unit → Option (List Cell) := fun _ =>
  (mk (α := Cell) (Cell.mk 0 0) (IntKind.i64.wrap y1.2)).bind fun m3 =>
  (cpyM m3 0 m3.length x0).bind fun l6 =>
  iter (slices_Repeat_api_Cell_api_Cell_b1) FUEL (l6, ((Nat.min x0.length m3.length : Nat) : Int))
def slices_Repeat_api_Cell_api_Cell_k1 (x0 : List Cell) (count0 : Int) : Unit → Option (List Cell) := fun _ =>
  (bits_Mul_m (IntKind.u64.wrap (x0.length : Int)) (IntKind.u64.wrap count0)).bind fun y1 =>
  if (decide (0 < y1.1) || decide (9223372036854775807 < y1.2)) then
    (none)
  else
    (slices_Repeat_api_Cell_api_Cell_k2 y1 x0 ())
def slices_Repeat_api_Cell_api_Cell_m (x0 : List Cell) (count0 : Int) : Option (List Cell) :=
  if decide (count0 < 0) then
    (none)
  else
    (slices_Repeat_api_Cell_api_Cell_k1 x0 count0 ())
theorem slices_Repeat_api_Cell_api_Cell_spec (S : Soup) (w : World) (x0 : List Cell) (r_x0 : GoRep.R (List Cell)) (count0 : Int) (y : (List Cell)) (hM : slices_Repeat_api_Cell_api_Cell_m x0 count0 = some y) (hS : ∀ k, S k → k < w.heap.size) (h_x0 : GoRep.ok S w r_x0 x0) :
    Calls Try.prog 52 #[.slice r_x0.a x0.length r_x0.cap, .int .i64 count0] w (Post (β := (GoRep.R (List Cell))) S [] (fun g => .slice g.a y.length g.cap) (fun g => [trow 57 g y]) w) := by
  refine calls_cw (args := [_, _]) Try.func52 rfl ((pre_nil hS).start |>.immP (α := List Cell) (r := r_x0) (x := x0) h_x0) rfl ?_
  unfold slices_Repeat_api_Cell_api_Cell_m at hM
  refine cw_seq fun K1 hK1 => ?_
  refine cw_region ?_
  refine ow_ev ev_assign ?_
  refine ow_nil (hK1 _ _ ?_); clear hK1
  refine cw_cut (γ := Unit × Unit) (env := fun (_, _) => [(0, .v (.slice r_x0.a x0.length r_x0.cap)), (1, .v (.int .i64 count0))]) (mem := fun (_, _) => [imm (α := (List Cell)) r_x0 x0]) (R := fun g => slices_Repeat_api_Cell_api_Cell_k1 x0 count0 g.1 = some y) ?_ ?_
  · intro KJ1 hJ1
    refine cw_seq fun K10 hK10 => ?_
    refine cw_region ?_
    refine ow_ev ev_move ?_
    refine ow_ev ev_lss ?_
    refine ow_nil (hK10 _ _ ?_); clear hK10
    refine cw_cond rfl (fun hc19 => ?_) (fun hc19 => ?_)
    ·
      replace hM := (ite_t hc19).symm.trans hM
      refine cw_region ?_
      cases hM
    ·
      replace hM := (ite_f hc19).symm.trans hM
      refine cw_skip (hJ1 ((), ()) _ _ hM ⟨rfl, rfl, trivial⟩ (fun w hm => hm.reord))
  ·
    clear hM
    intro g hM
    obtain ⟨⟨⟩, ⟨⟩⟩ := g
    dsimp only at hM ⊢
    dsimp only [slices_Repeat_api_Cell_api_Cell_k1] at hM
    refine cw_seq fun K2 hK2 => ?_
    refine cw_region ?_
    refine ow_ev ev_move ?_
    refine ow_ev ev_len ?_
    refine ow_ev (ev_convert_int .u64) ?_
    refine ow_ev ev_move ?_
    refine ow_ev (ev_convert_int .u64) ?_
    obtain ⟨y1, hy2, hM⟩ := bind_some hM
    refine ow_cons (st_callv (fun w hm => let ⟨S, hs⟩ := hm; bits_Mul_spec _ w (IntKind.u64.wrap (x0.length : Int)) (IntKind.u64.wrap count0) y1 hy2 (lend_lt hs) ) ?_)
    refine ow_ev ev_move ?_
    refine ow_ev (ev_extract (vs := [.int .u64 y1.1, .int .u64 y1.2])) ?_
    refine ow_ev (ev_extract (vs := [.int .u64 y1.1, .int .u64 y1.2])) ?_
    refine ow_ev ev_assign ?_
    refine ow_ev ev_assign ?_
    refine ow_nil (hK2 _ _ ?_); clear hK2
    refine cw_cut (γ := Unit × Unit) (env := fun (_, _) => [(0, .v (.slice r_x0.a x0.length r_x0.cap)), (6, .v (.int .u64 y1.2))]) (mem := fun (_, _) => [imm (α := (List Cell)) r_x0 x0]) (R := fun g => slices_Repeat_api_Cell_api_Cell_k2 y1 x0 g.1 = some y) ?_ ?_
    · intro KJ2 hJ2
      refine cw_seq fun K9 hK9 => ?_
      refine cw_region ?_
      refine ow_ev ev_move ?_
      refine ow_ev ev_gtr ?_
      refine ow_ev ev_move ?_
      refine ow_evg rfl ev_move ?_
      refine ow_evg rfl ev_gtr ?_
      refine ow_ev ev_or ?_
      refine ow_nil (hK9 _ _ ?_); clear hK9
      refine cw_cond rfl (fun hc18 => ?_) (fun hc18 => ?_)
      ·
        replace hM := (ite_t hc18).symm.trans hM
        refine cw_region ?_
        cases hM
      ·
        replace hM := (ite_f hc18).symm.trans hM
        refine cw_skip (hJ2 ((), ()) _ _ hM ⟨rfl, rfl, trivial⟩ (fun w hm => hm.reord))
    ·
      clear hM
      intro g hM
      obtain ⟨⟨⟩, ⟨⟩⟩ := g
      dsimp only at hM ⊢
      dsimp only [slices_Repeat_api_Cell_api_Cell_k2] at hM
      refine cw_seq fun K3 hK3 => ?_
      refine cw_region ?_
      refine ow_ev ev_move ?_
      refine ow_ev (ev_convert_int .i64) ?_
      obtain ⟨m3, hm4, hM⟩ := bind_some hM
      refine ow_cons (st_make (α := Cell) (e := 57) (Cell.mk 0 0) () hm4 (fun _ _ => trivial) (fun r5 hr5 => ?_))
      refine ow_ev ev_assign ?_
      refine ow_nil (hK3 _ _ ?_); clear hK3
      refine cw_seq fun K4 hK4 => ?_
      refine cw_region ?_
      refine ow_ev ev_move ?_
      refine ow_ev ev_move ?_
      obtain ⟨l6, hz7, hM⟩ := bind_some hM
      refine ow_cons (st_copy (r := r5) (xs := m3) (by repeat (first | exact Upd.head | apply Upd.tail)) (Kn.imm (α := List Cell) (r := r_x0) (x := x0) (by repeat (first | exact Has.head | apply Has.tail))) hz7 From.all (fun _ _ _ _ => trivial) (fun _ _ _ => rfl) ?_)
      refine ow_same 30 (v' := .slice r5.a l6.length r5.cap) rfl (by simp only [cpyM_len hz7, List.length_set]) ?_
      refine ow_same 7 (v' := .slice r5.a l6.length r5.cap) rfl (by simp only [cpyM_len hz7, List.length_set]) ?_
      refine ow_same 31 (v' := .slice r5.a l6.length r5.cap) rfl (by simp only [cpyM_len hz7, List.length_set]) ?_
      refine ow_ev ev_assign ?_
      refine ow_nil (hK4 _ _ ?_); clear hK4
      refine cw_seq fun K5 hK5 => ?_
      refine cw_block ?_
      refine cw_loop (γ := Nat × ((List Cell) × Int) × Unit) (env := fun (_, (lnewslice_1, n_1), _) => [(7, .v (.slice r5.a lnewslice_1.length r5.cap)), (8, .v (.int .i64 n_1))]) (mem := fun (_, (lnewslice_1, n_1), _) => [trow 57 r5 lnewslice_1]) (R := fun g => iter (slices_Repeat_api_Cell_api_Cell_b1) g.1 g.2.1 = some y) (μ := fun g => g.1) (FUEL, (l6, ((Nat.min x0.length m3.length : Nat) : Int)), ()) hM ⟨rfl, rfl, trivial⟩ (fun w hm => hm.reord) ?_
      clear hM
      intro g hM KL1 hL1
      obtain ⟨nn1, ⟨lnewslice_1, n_1⟩, ⟨⟩⟩ := g
      dsimp only at hM ⊢
      obtain ⟨nn1, cont1, rfl, hcont1, hM⟩ := iter_open' hM
      dsimp only [slices_Repeat_api_Cell_api_Cell_b1] at hM
      refine cw_seq fun K6 hK6 => ?_
      refine cw_seq fun K7 hK7 => ?_
      refine cw_region ?_
      refine ow_ev ev_move ?_
      refine ow_ev ev_move ?_
      refine ow_ev ev_len ?_
      refine ow_ev ev_lss ?_
      refine ow_nil (hK7 _ _ ?_); clear hK7
      refine cw_cond rfl (fun hc8 => ?_) (fun hc8 => ?_)
      ·
        replace hM := (ite_t hc8).symm.trans hM
        refine cw_skip (hK6 _ _ ?_); clear hK6
        refine cw_block ?_
        refine cw_region_any [] (by repeat (first | exact List.Sublist.refl _ | apply List.Sublist.cons_cons | apply List.Sublist.cons)) ?_
        refine aw_ev 0 rfl ev_move ?_
        refine aw_ev 1 rfl ev_move ?_
        refine aw_ev 2 rfl ev_move ?_
        obtain ⟨l9, hl10, hM⟩ := bind_some hM
        refine aw_have (fun w hm => Kn.capL (Kn.trow (e := 57) (r := r5) (by repeat (first | exact Has.head | apply Has.tail))) hm) fun hcap11 => ?_
        refine aw_ev 3 rfl (ev_subc (xs := lnewslice_1) (ol := some (.i64, n_1)) (oh := none) hcap11 (fun _ => hl10)) ?_
        refine aw_ev 4 rfl ev_move ?_
        refine aw_ev 5 rfl ev_move ?_
        obtain ⟨l12, hl13, hM⟩ := bind_some hM
        refine aw_have (fun w hm => Kn.capL (Kn.trow (e := 57) (r := r5) (by repeat (first | exact Has.head | apply Has.tail))) hm) fun hcap14 => ?_
        refine aw_ev 6 rfl (ev_subc (xs := lnewslice_1) (ol := none) (oh := some (.i64, n_1)) hcap14 (fun _ => hl13)) ?_
        obtain ⟨l15, hz16, hM⟩ := bind_some hM
        refine aw_one 7 rfl (st_copy (r := r5) (xs := lnewslice_1) (by repeat (first | exact Upd.head | apply Upd.tail)) (Kn.subv (Kn.trow (e := 57) (r := r5) (by repeat (first | exact Has.head | apply Has.tail))) hl13) hz16 From.sub (fun _ _ _ _ => trivial) (fun _ _ _ => rfl) ⟨fun w hm => hm.sub (by repeat (first | exact List.Sublist.refl _ | apply List.Sublist.cons_cons | apply List.Sublist.cons)), ?_⟩)
        refine aw_same 7 (v' := .slice r5.a l15.length r5.cap) rfl (by simp only [cpyM_len hz16, List.length_set]) ?_
        refine aw_same 35 (v' := .slice r5.a l15.length r5.cap) rfl (by simp only [cpyM_len hz16, List.length_set]) ?_
        refine aw_same 39 (v' := .slice r5.a l15.length r5.cap) rfl (by simp only [cpyM_len hz16, List.length_set]) ?_
        refine aw_same 42 (v' := .slice r5.a l15.length r5.cap) rfl (by simp only [cpyM_len hz16, List.length_set]) ?_
        obtain ⟨hI17, hM⟩ := chk_some hM
        refine aw_ev 8 rfl (ev_add (hr := fun hg => i64b_I64 hI17)) ?_
        refine aw_ev 9 rfl ev_assign ?_
        refine aw_done (hL1 (nn1, (l15, (n_1 + ((Nat.min l12.length l9.length : Nat) : Int))), ()) _ _ (eqc hcont1 hM) (Nat.lt_succ_self _) ⟨rfl, rfl, trivial⟩ (fun w hm => hm.reord))
      ·
        replace hM := (ite_f hc8).symm.trans hM
        refine cw_exit (hK5 _ _ ?_); clear hK5
        dsimp only [slices_Repeat_api_Cell_api_Cell_k3] at hM
        refine cw_seq fun K8 hK8 => ?_
        refine cw_region ?_
        refine ow_ev ev_move ?_
        refine ow_ev ev_assign ?_
        refine ow_nil (hK8 _ _ ?_); clear hK8
        obtain rfl := some_inj hM
        refine cw_ret (kw_retc1 (fun w hm => post_of r5 hm rfl))

def route_Cells_k2 (x17 : Section) (lcells_1 : List Cell) (cont1 : ((List Cell) × Nat) → Option ((List Cell) × Int × Int)) (t29_1 : Nat) : Int → Option ((List Cell) × Int × Int) := fun cell_j2_1 =>
  (slices_Repeat_api_Cell_api_Cell_m ([(Cell.mk x17.Limit cell_j2_1)] : List Cell) x17.Length).bind fun y22 =>
  chk (decide ((lcells_1.length + y22.length) * 16 ≤ 140737488355328)) <|
  cont1 ((lcells_1 ++ y22), t29_1 + 1)
def route_Cells_k1 (lcells_1 : List Cell) (r0 : Route) (l0 : Layout) : Unit → Option ((List Cell) × Int × Int) := fun _ =>
  if decide (4000 < (lcells_1.length : Int)) then
    (some (([] : List Cell), 0, 7))
  else
    ((idx r0.Steps 0).bind fun x31 =>
    (idx l0.Sections x31.Section).bind fun x33 =>
    some (lcells_1, x33.Length, 0))
def route_Cells_b1 (l8 : List Step) (l0 : Layout) (r0 : Route) (cont1 : ((List Cell) × Nat) → Option ((List Cell) × Int × Int)) : ((List Cell) × Nat) → Option ((List Cell) × Int × Int) := fun (lcells_1, t29_1) =>
  if decide ((t29_1 : Int) < (l8.length : Int)) then
    ((idx l8 (t29_1 : Int)).bind fun x14 =>
    (idx l0.Sections x14.Section).bind fun x17 =>
    if decide (x14.Dir = 1) then
      (chk (i64b (-x17.Grade)) <|
      route_Cells_k2 x17 lcells_1 cont1 t29_1 (-x17.Grade))
    else
      (route_Cells_k2 x17 lcells_1 cont1 t29_1 x17.Grade))
  else
    (route_Cells_k1 lcells_1 r0 l0 ())
def route_Cells_m (l0 : Layout) (r0 : Route) : Option ((List Cell) × Int × Int) :=
  (route_Check_m l0 r0).bind fun y3 =>
  if decide (y3 ≠ 0) then
    (some (([] : List Cell), 0, y3))
  else
    (chk (i64b ((r0.Steps.length : Int) - r0.Overlap)) <|
    (sub r0.Steps 0 ((r0.Steps.length : Int) - r0.Overlap)).bind fun l8 =>
    iter (route_Cells_b1 l8 l0 r0) FUEL (([] : List Cell), 0))
theorem route_Cells_spec (S : Soup) (w : World) (l0 : Layout) (r_l0 : GoRep.R Layout) (r0 : Route) (r_r0 : GoRep.R Route) (y : (List Cell) × Int × Int) (hM : route_Cells_m l0 r0 = some y) (hS : ∀ k, S k → k < w.heap.size) (h_l0 : GoRep.ok S w r_l0 l0) (h_r0 : GoRep.ok S w r_r0 r0) :
    Calls Try.prog 29 #[.agg #[.slice r_l0.1.a l0.Stations.length r_l0.1.cap, .slice r_l0.2.1.a l0.Points.length r_l0.2.1.cap, .slice r_l0.2.2.1.a l0.Sections.length r_l0.2.2.1.cap, .slice r_l0.2.2.2.a l0.Links.length r_l0.2.2.2.cap], .agg #[.slice r_r0.a r0.Steps.length r_r0.cap, .int .i64 r0.Overlap]] w (Post (β := (GoRep.R (List Cell))) S [] (fun g => .tuple #[.slice g.a y.1.length g.cap, .int .i64 y.2.1, .int .i64 y.2.2]) (fun g => [trow 57 g y.1]) w) := by
  refine calls_cw (args := [_, _]) Try.func29 rfl ((pre_nil hS).start |>.immP (α := List Str) (r := r_l0.1) (x := l0.Stations) h_l0.1|>.immP (α := List Str) (r := r_l0.2.1) (x := l0.Points) h_l0.2.1|>.immP (α := List Section) (r := r_l0.2.2.1) (x := l0.Sections) h_l0.2.2.1|>.immP (α := List Link) (r := r_l0.2.2.2) (x := l0.Links) h_l0.2.2.2|>.immP (α := List Step) (r := r_r0) (x := r0.Steps) h_r0) rfl ?_
  unfold route_Cells_m at hM
  refine cw_seq fun K1 hK1 => ?_
  refine cw_region ?_
  refine ow_cons (st_box (l := [.slice r_l0.1.a l0.Stations.length r_l0.1.cap, .slice r_l0.2.1.a l0.Points.length r_l0.2.1.cap, .slice r_l0.2.2.1.a l0.Sections.length r_l0.2.2.1.cap, .slice r_l0.2.2.2.a l0.Links.length r_l0.2.2.2.cap]) (k := fun b1 => ?_))
  refine ow_cons (st_box (l := [.slice r_r0.a r0.Steps.length r_r0.cap, .int .i64 r0.Overlap]) (k := fun b2 => ?_))
  refine ow_ev ev_assign ?_
  refine ow_ev ev_assign ?_
  refine ow_ev ev_assign ?_
  refine ow_nil (hK1 _ _ ?_); clear hK1
  refine cw_seq fun K2 hK2 => ?_
  refine cw_seq fun K3 hK3 => ?_
  refine cw_region ?_
  refine ow_ev (ev_load_all (b := b1)) ?_
  refine ow_ev (ev_load_all (b := b2)) ?_
  obtain ⟨y3, hy4, hM⟩ := bind_some hM
  refine ow_cons (st_callv (fun w hm => let ⟨S, hs⟩ := hm; route_Check_spec _ w l0 r_l0 r0 r_r0 y3 hy4 (lend_lt hs) ⟨(Kn.lend (Kn.imm (α := List Str) (r := r_l0.1) (x := l0.Stations) (by repeat (first | exact Has.head | apply Has.tail))) hs), (Kn.lend (Kn.imm (α := List Str) (r := r_l0.2.1) (x := l0.Points) (by repeat (first | exact Has.head | apply Has.tail))) hs), (Kn.lend (Kn.imm (α := List Section) (r := r_l0.2.2.1) (x := l0.Sections) (by repeat (first | exact Has.head | apply Has.tail))) hs), (Kn.lend (Kn.imm (α := List Link) (r := r_l0.2.2.2) (x := l0.Links) (by repeat (first | exact Has.head | apply Has.tail))) hs)⟩ (Kn.lend (Kn.imm (α := List Step) (r := r_r0) (x := r0.Steps) (by repeat (first | exact Has.head | apply Has.tail))) hs)) ?_)
  refine ow_ev ev_assign ?_
  refine ow_nil (hK3 _ _ ?_); clear hK3
  refine cw_seq fun K4 hK4 => ?_
  refine cw_region ?_
  refine ow_ev ev_move ?_
  refine ow_ev ev_neq ?_
  refine ow_nil (hK4 _ _ ?_); clear hK4
  refine cw_cond rfl (fun hc5 => ?_) (fun hc5 => ?_)
  ·
    replace hM := (ite_t hc5).symm.trans hM
    refine cw_seq fun K5 hK5 => ?_
    refine cw_region ?_
    refine ow_ev ev_move ?_
    refine ow_ev ev_assign ?_
    refine ow_ev ev_assign ?_
    refine ow_ev ev_assign ?_
    refine ow_nil (hK5 _ _ ?_); clear hK5
    refine cw_imp (fun w hm => hm.row_nil (α := Cell) 57 (fun _ => ())) ?_
    obtain rfl := some_inj hM
    refine cw_ret (kw_retc3 (fun w hm => post_of (⟨none, 0, (fun _ => ())⟩ : SR (GoRep.R Cell) ) hm rfl))
  ·
    replace hM := (ite_f hc5).symm.trans hM
    refine cw_skip (hK2 _ _ ?_); clear hK2
    refine cw_seq fun K6 hK6 => ?_
    refine cw_region ?_
    refine ow_ev ev_assign ?_
    refine ow_nil (hK6 _ _ ?_); clear hK6
    refine cw_seq fun K7 hK7 => ?_
    refine cw_seq fun K8 hK8 => ?_
    refine cw_region ?_
    refine ow_ev (ev_field_addr 0) ?_
    refine ow_ev (ev_load_own (b := b2)) ?_
    refine ow_ev (ev_field_addr 0) ?_
    refine ow_ev (ev_load_own (b := b2)) ?_
    refine ow_ev ev_len ?_
    refine ow_ev (ev_field_addr 1) ?_
    refine ow_ev (ev_load_own (b := b2)) ?_
    obtain ⟨hI7, hM⟩ := chk_some hM
    refine ow_ev (ev_sub (hr := fun hg => i64b_I64 hI7)) ?_
    obtain ⟨l8, hl9, hM⟩ := bind_some hM
    refine ow_cons (st_sub (r := r_r0) (xs := r0.Steps) (ol := none) (oh := some (.i64, ((r0.Steps.length : Int) - r0.Overlap))) (Sk.imm (α := List Step) (r := r_r0) (x := r0.Steps) (by repeat (first | exact Has.head | apply Has.tail))) hl9 (fun r10 => ?_))
    refine ow_have (fun w hm => Kn.len (Kn.imm (α := List Step) (r := r10) (x := l8) (by repeat (first | exact Has.head | apply Has.tail))) hm) fun hl11 => ?_
    refine ow_ev ev_len ?_
    refine ow_ev ev_move ?_
    refine ow_nil (hK8 _ _ ?_); clear hK8
    refine cw_block ?_
    refine cw_imp (fun w hm => hm.row_nil (α := Cell) 57 (fun _ => ())) ?_
    refine cw_loop (γ := Nat × ((List Cell) × Nat) × (SR (GoRep.R Cell))) (env := fun (_, (lcells_1, t29_1), rcells_1) => [(2, .v (.pointer (some ⟨b1, 0, none⟩))), (3, .v (.pointer (some ⟨b2, 0, none⟩))), (8, .v (.slice rcells_1.a lcells_1.length rcells_1.cap)), (27, .v (.slice r10.a l8.length r10.cap)), (28, .v (.int .i64 (l8.length : Int))), (29, .v (.int .i64 (t29_1 : Int)))]) (mem := fun (_, (lcells_1, t29_1), rcells_1) => [imm (α := (List Str)) r_l0.1 l0.Stations, imm (α := (List Str)) r_l0.2.1 l0.Points, imm (α := (List Section)) r_l0.2.2.1 l0.Sections, imm (α := (List Link)) r_l0.2.2.2 l0.Links, own b1 28 [.slice r_l0.1.a l0.Stations.length r_l0.1.cap, .slice r_l0.2.1.a l0.Points.length r_l0.2.1.cap, .slice r_l0.2.2.1.a l0.Sections.length r_l0.2.2.1.cap, .slice r_l0.2.2.2.a l0.Links.length r_l0.2.2.2.cap], imm (α := (List Step)) r_r0 r0.Steps, own b2 48 [.slice r_r0.a r0.Steps.length r_r0.cap, .int .i64 r0.Overlap], trow 57 rcells_1 lcells_1, imm (α := (List Step)) r10 l8]) (R := fun g => iter (route_Cells_b1 l8 l0 r0) g.1 g.2.1 = some y) (μ := fun g => g.1) (FUEL, (([] : List Cell), 0), (⟨none, 0, (fun _ => ())⟩ : SR (GoRep.R Cell)  )) hM ⟨rfl, rfl, rfl, rfl, rfl, rfl, trivial⟩ (fun w hm => hm.reord) ?_
    clear hM
    intro g hM KL1 hL1
    obtain ⟨nn1, ⟨lcells_1, t29_1⟩, rcells_1⟩ := g
    dsimp only at hM ⊢
    obtain ⟨nn1, cont1, rfl, hcont1, hM⟩ := iter_open' hM
    dsimp only [route_Cells_b1] at hM
    refine cw_seq fun K9 hK9 => ?_
    refine cw_region ?_
    refine ow_ev ev_lss ?_
    refine ow_nil (hK9 _ _ ?_); clear hK9
    refine cw_seq fun K10 hK10 => ?_
    refine cw_cond rfl (fun hc13 => ?_) (fun hc13 => ?_)
    ·
      replace hM := (ite_t hc13).symm.trans hM
      have hc13d := of_decide_eq_true hc13
      refine cw_skip (hK10 _ _ ?_); clear hK10
      refine cw_seq fun K11 hK11 => ?_
      refine cw_block ?_
      refine cw_seq fun K12 hK12 => ?_
      refine cw_region ?_
      obtain ⟨x14, hx15, hM⟩ := bind_some hM
      refine ow_ev (ev_idx (xs := l8) 2 (Kn.imm (α := List Step) (r := r10) (x := l8) (by repeat (first | exact Has.head | apply Has.tail))) (fun hg => let h := idx_some hx15; ⟨h.1, h.2.1⟩)) ?_
      refine ow_ev (ev_lds (m := 2) (i := (t29_1 : Int)) (xs := l8) (y := x14) (l := [.int .i64 x14.Section, .int .i64 x14.Dir]) 0 (Kn.imm (α := List Step) (r := r10) (x := l8) (by repeat (first | exact Has.head | apply Has.tail))) (fun _ => hx15)) ?_
      refine ow_cons (st_alloc rfl (k := fun b16 => ?_))
      refine ow_cons (st_store_all (b := b16) (vs := [.int .i64 x14.Section, .int .i64 x14.Dir]) (k := ?_))
      refine ow_nil (hK12 _ _ ?_); clear hK12
      refine cw_seq fun K13 hK13 => ?_
      refine cw_region ?_
      refine ow_ev (ev_field_addr 2) ?_
      refine ow_ev (ev_load_own (b := b1)) ?_
      refine ow_ev (ev_field_addr 0) ?_
      refine ow_ev (ev_load_own (b := b16)) ?_
      obtain ⟨x17, hx18, hM⟩ := bind_some hM
      refine ow_ev (ev_idx (xs := l0.Sections) 5 (Kn.imm (α := List Section) (r := r_l0.2.2.1) (x := l0.Sections) (by repeat (first | exact Has.head | apply Has.tail))) (fun hg => let h := idx_some hx18; ⟨h.1, h.2.1⟩)) ?_
      refine ow_ev (ev_lds (m := 5) (i := x14.Section) (xs := l0.Sections) (y := x17) (l := [.string x17.Name.ba, .int .i64 x17.Length, .int .i64 x17.Limit, .int .i64 x17.Grade, .int .i64 x17.Station]) 0 (Kn.imm (α := List Section) (r := r_l0.2.2.1) (x := l0.Sections) (by repeat (first | exact Has.head | apply Has.tail))) (fun _ => hx18)) ?_
      refine ow_cons (st_alloc rfl (k := fun b19 => ?_))
      refine ow_cons (st_store_all (b := b19) (vs := [.string x17.Name.ba, .int .i64 x17.Length, .int .i64 x17.Limit, .int .i64 x17.Grade, .int .i64 x17.Station]) (k := ?_))
      refine ow_nil (hK13 _ _ ?_); clear hK13
      refine cw_seq fun K14 hK14 => ?_
      refine cw_region ?_
      refine ow_ev (ev_field_addr 2) ?_
      refine ow_ev (ev_load_own (b := b19)) ?_
      refine ow_ev (ev_field_addr 3) ?_
      refine ow_ev (ev_load_own (b := b19)) ?_
      refine ow_ev (ev_build [.int .i64 x17.Limit, .int .i64 x17.Grade]) ?_
      refine ow_cons (st_alloc rfl (k := fun b20 => ?_))
      refine ow_cons (st_store_all (b := b20) (vs := [.int .i64 x17.Limit, .int .i64 x17.Grade]) (k := ?_))
      refine ow_nil (hK14 _ _ ?_); clear hK14
      refine cw_cut (γ := Int × Unit) (env := fun (cell_j2_1, _) => [(2, .v (.pointer (some ⟨b1, 0, none⟩))), (3, .v (.pointer (some ⟨b2, 0, none⟩))), (8, .v (.slice rcells_1.a lcells_1.length rcells_1.cap)), (11, .v (.pointer (some ⟨b19, 0, none⟩))), (12, .v (.pointer (some ⟨b20, 0, none⟩))), (27, .v (.slice r10.a l8.length r10.cap)), (28, .v (.int .i64 (l8.length : Int))), (29, .v (.int .i64 (t29_1 : Int)))]) (mem := fun (cell_j2_1, _) => [imm (α := (List Str)) r_l0.1 l0.Stations, imm (α := (List Str)) r_l0.2.1 l0.Points, imm (α := (List Section)) r_l0.2.2.1 l0.Sections, imm (α := (List Link)) r_l0.2.2.2 l0.Links, own b1 28 [.slice r_l0.1.a l0.Stations.length r_l0.1.cap, .slice r_l0.2.1.a l0.Points.length r_l0.2.1.cap, .slice r_l0.2.2.1.a l0.Sections.length r_l0.2.2.1.cap, .slice r_l0.2.2.2.a l0.Links.length r_l0.2.2.2.cap], imm (α := (List Step)) r_r0 r0.Steps, own b2 48 [.slice r_r0.a r0.Steps.length r_r0.cap, .int .i64 r0.Overlap], trow 57 rcells_1 lcells_1, own b19 31 [.string x17.Name.ba, .int .i64 x17.Length, .int .i64 x17.Limit, .int .i64 x17.Grade, .int .i64 x17.Station], own b20 57 [.int .i64 x17.Limit, .int .i64 cell_j2_1], imm (α := (List Step)) r10 l8]) (R := fun g => route_Cells_k2 x17 lcells_1 cont1 t29_1 g.1 = some y) ?_ ?_
      · intro KJ2 hJ2
        refine cw_seq fun K15 hK15 => ?_
        refine cw_region ?_
        refine ow_ev (ev_field_addr 1) ?_
        refine ow_ev (ev_load_own (b := b16)) ?_
        refine ow_ev ev_eql ?_
        refine ow_nil (hK15 _ _ ?_); clear hK15
        refine cw_cond rfl (fun hc27 => ?_) (fun hc27 => ?_)
        ·
          replace hM := (ite_t hc27).symm.trans hM
          refine cw_region ?_
          refine ow_ev (ev_field_addr 1) ?_
          refine ow_ev (ev_load_own (b := b20)) ?_
          obtain ⟨hI28, hM⟩ := chk_some hM
          refine ow_ev (ev_neg (hr := fun hg => i64b_I64 hI28)) ?_
          refine ow_ev (ev_field_addr 1) ?_
          refine ow_cons (st_store_own (b := b20) (l' := [.int .i64 x17.Limit, .int .i64 (-x17.Grade)]) (k := ?_))
          refine ow_nil (hJ2 ((-x17.Grade), ()) _ _ hM ⟨rfl, rfl, rfl, rfl, rfl, rfl, rfl, rfl, trivial⟩ (fun w hm => hm.reord))
        ·
          replace hM := (ite_f hc27).symm.trans hM
          refine cw_skip (hJ2 (x17.Grade, ()) _ _ hM ⟨rfl, rfl, rfl, rfl, rfl, rfl, rfl, rfl, trivial⟩ (fun w hm => hm.reord))
      ·
        clear hM
        intro g hM
        obtain ⟨cell_j2_1, ⟨⟩⟩ := g
        dsimp only at hM ⊢
        dsimp only [route_Cells_k2] at hM
        refine cw_region ?_
        refine ow_ev ev_move ?_
        refine ow_ev (ev_load_all (b := b20)) ?_
        refine ow_cons (st_bslice (α := Cell) 57 (fun _ => ()) ([(Cell.mk x17.Limit cell_j2_1)] : List Cell) (OkL.flat (fun _ _ _ _ => trivial)) (fun r21 => ?_))
        refine ow_ev (ev_field_addr 1) ?_
        refine ow_ev (ev_load_own (b := b19)) ?_
        obtain ⟨y22, hy23, hM⟩ := bind_some hM
        refine ow_cons (st_callF SelL.nil (fun S w hs hP => slices_Repeat_api_Cell_api_Cell_spec _ w ([(Cell.mk x17.Limit cell_j2_1)] : List Cell) r21 x17.Length y22 hy23 (lend_lt hs) (Kn.lend (Kn.trow (e := 57) (r := r21) (by repeat (first | exact Has.head | apply Has.tail))) hs)) (by intro r c hc; simp only [List.mem_cons, List.not_mem_nil, or_false] at hc; rcases hc with rfl <;> first | exact flatC_own | exact flatC_trow (fun _ _ _ _ => trivial)) (fun r24 => ?_))
        dsimp only [List.cons_append, List.nil_append]
        obtain ⟨hb25, hM⟩ := chk_some hM
        refine ow_cons (st_append (r := rcells_1) (r2 := r24) (by intro r'; repeat (first | exact Upd.head | apply Upd.tail)) (Kn.trow (e := 57) (r := r24) (by repeat (first | exact Has.head | apply Has.tail))) (OkL.flat (fun _ _ _ _ => trivial)) (of_decide_eq_true hb25) (fun r26 => ?_))
        refine ow_ev ev_assign ?_
        refine ow_nil (hK11 _ _ ?_); clear hK11
        refine cw_region ?_
        refine ow_ev (ev_add (hr := fun _ => by unfold I64; omega)) ?_
        refine ow_ev ev_move ?_
        refine ow_nil (hL1 (nn1, ((lcells_1 ++ y22), t29_1 + 1), r26) _ _ (eqc hcont1 hM) (Nat.lt_succ_self _) ⟨rfl, rfl, rfl, rfl, rfl, rfl, trivial⟩ (fun w hm => hm.reord))
    ·
      replace hM := (ite_f hc13).symm.trans hM
      refine cw_exit (hK7 _ _ ?_); clear hK7
      dsimp only [route_Cells_k1] at hM
      refine cw_seq fun K16 hK16 => ?_
      refine cw_seq fun K17 hK17 => ?_
      refine cw_region ?_
      refine ow_ev ev_move ?_
      refine ow_ev ev_len ?_
      refine ow_ev ev_gtr ?_
      refine ow_nil (hK17 _ _ ?_); clear hK17
      refine cw_cond rfl (fun hc29 => ?_) (fun hc29 => ?_)
      ·
        replace hM := (ite_t hc29).symm.trans hM
        refine cw_seq fun K18 hK18 => ?_
        refine cw_region ?_
        refine ow_ev ev_assign ?_
        refine ow_ev ev_assign ?_
        refine ow_ev ev_assign ?_
        refine ow_nil (hK18 _ _ ?_); clear hK18
        refine cw_imp (fun w hm => hm.row_nil (α := Cell) 57 (fun _ => ())) ?_
        obtain rfl := some_inj hM
        refine cw_ret (kw_retc3 (fun w hm => post_of (⟨none, 0, (fun _ => ())⟩ : SR (GoRep.R Cell)       ) hm rfl))
      ·
        replace hM := (ite_f hc29).symm.trans hM
        refine cw_skip (hK16 _ _ ?_); clear hK16
        refine cw_seq fun K19 hK19 => ?_
        refine cw_region_any _ (List.Sublist.refl _) ?_
        refine aw_ev 0 rfl ev_move ?_
        refine aw_ev 1 rfl (ev_field_addr 2) ?_
        refine aw_ev 2 rfl (ev_load_own (b := b1)) ?_
        refine aw_ev 3 rfl (ev_field_addr 0) ?_
        refine aw_ev 4 rfl (ev_load_own (b := b2)) ?_
        obtain ⟨x31, hx32, hM⟩ := bind_some hM
        refine aw_ev 5 rfl (ev_idx (xs := r0.Steps) 2 (Kn.imm (α := List Step) (r := r_r0) (x := r0.Steps) (by repeat (first | exact Has.head | apply Has.tail))) (fun hg => let h := idx_some hx32; ⟨h.1, h.2.1⟩)) ?_
        refine aw_ev 6 rfl (ev_field_addr 0) ?_
        refine aw_ev 7 rfl (ev_ld (i := 0) (xs := r0.Steps) (y := x31) 0 (Kn.imm (α := List Step) (r := r_r0) (x := r0.Steps) (by repeat (first | exact Has.head | apply Has.tail))) (fun _ => hx32)) ?_
        obtain ⟨x33, hx34, hM⟩ := bind_some hM
        refine aw_ev 8 rfl (ev_idx (xs := l0.Sections) 5 (Kn.imm (α := List Section) (r := r_l0.2.2.1) (x := l0.Sections) (by repeat (first | exact Has.head | apply Has.tail))) (fun hg => let h := idx_some hx34; ⟨h.1, h.2.1⟩)) ?_
        refine aw_ev 9 rfl (ev_field_addr 1) ?_
        refine aw_ev 10 rfl (ev_ld (i := x31.Section) (xs := l0.Sections) (y := x33) 1 (Kn.imm (α := List Section) (r := r_l0.2.2.1) (x := l0.Sections) (by repeat (first | exact Has.head | apply Has.tail))) (fun _ => hx34)) ?_
        refine aw_ev 11 rfl ev_assign ?_
        refine aw_ev 12 rfl ev_assign ?_
        refine aw_ev 13 rfl ev_assign ?_
        refine aw_done (hK19 _ _ ?_); clear hK19
        obtain rfl := some_inj hM
        refine cw_ret (kw_retc3 (fun w hm => post_of rcells_1 hm rfl))

end Go.Proofs.Ytnihhidbiepnhaa

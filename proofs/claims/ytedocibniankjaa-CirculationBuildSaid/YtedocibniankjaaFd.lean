/- Models of functions, and that the code computes them. -/
import Derived.Test.YtedocibniankjaaFa
namespace Go.Proofs.Ytedocibniankjaa
open Go.Dc Go.RowKit
set_option maxRecDepth 10000
set_option linter.unusedVariables false
def flow_residual_add_m (r0 : Flow_residual) (from0 : Int) (to0 : Int) (limit0 : Int) (cost0 : Int) : Option ((List Int) × (List Int) × (List Int) × (List (List Int))) :=
  (idx r0.from_ from0).bind fun x1 =>
  chk (decide ((x1.length + ([(r0.to.length : Int)] : List Int).length) * 8 ≤ 140737488355328)) <|
  (idx r0.from_ from0).bind fun x6 =>
  (idx (r0.from_.set from0.toNat (x1 ++ ([(r0.to.length : Int)] : List Int))) to0).bind fun x8 =>
  chk (i64b ((r0.to.length : Int) + 1)) <|
  chk (decide ((x8.length + ([((r0.to.length : Int) + 1)] : List Int).length) * 8 ≤ 140737488355328)) <|
  (idx (r0.from_.set from0.toNat (x1 ++ ([(r0.to.length : Int)] : List Int))) to0).bind fun x14 =>
  chk (decide ((r0.to.length + ([to0, from0] : List Int).length) * 8 ≤ 140737488355328)) <|
  chk (decide ((r0.left.length + ([limit0, 0] : List Int).length) * 8 ≤ 140737488355328)) <|
  chk (i64b (-cost0)) <|
  chk (decide ((r0.cost.length + ([cost0, (-cost0)] : List Int).length) * 8 ≤ 140737488355328)) <|
  some ((r0.to ++ ([to0, from0] : List Int)), (r0.left ++ ([limit0, 0] : List Int)), (r0.cost ++ ([cost0, (-cost0)] : List Int)), ((r0.from_.set from0.toNat (x1 ++ ([(r0.to.length : Int)] : List Int))).set to0.toNat (x8 ++ ([((r0.to.length : Int) + 1)] : List Int))))
theorem flow_residual_add_spec (S : Soup) (w : World) (b_r0 : Nat) (r0 : Flow_residual) (r_r0 : GoRep.R Flow_residual) (from0 : Int) (to0 : Int) (limit0 : Int) (cost0 : Int) (y : (List Int) × (List Int) × (List Int) × (List (List Int))) (hM : flow_residual_add_m r0 from0 to0 limit0 cost0 = some y) (hP : Pre S [own b_r0 91 [.int .i64 r0.nodes, .int .i64 r0.arcs, .slice r_r0.1.a r0.to.length r_r0.1.cap, .slice r_r0.2.1.a r0.left.length r_r0.2.1.cap, .slice r_r0.2.2.1.a r0.cost.length r_r0.2.2.1.cap, .slice r_r0.2.2.2.1.a r0.from_.length r_r0.2.2.2.1.cap, .slice r_r0.2.2.2.2.1.a r0.excess.length r_r0.2.2.2.2.1.cap, .slice r_r0.2.2.2.2.2.a r0.price.length r_r0.2.2.2.2.2.cap], trow 3 r_r0.1 r0.to, trow 3 r_r0.2.1 r0.left, trow 3 r_r0.2.2.1 r0.cost, rows2 (fun _ => True) 22 3 r_r0.2.2.2.1 r0.from_, trow 3 r_r0.2.2.2.2.1 r0.excess, trow 3 r_r0.2.2.2.2.2 r0.price] w)  :
    Calls Try.prog 75 #[.pointer (some ⟨b_r0, 0, none⟩), .int .i64 from0, .int .i64 to0, .int .i64 limit0, .int .i64 cost0] w (Post (β := (GoRep.R (List Int)) × (GoRep.R (List Int)) × (GoRep.R (List Int)) × (GoRep.R (List (List Int)))) S [own b_r0 91 [.int .i64 r0.nodes, .int .i64 r0.arcs, .slice r_r0.1.a r0.to.length r_r0.1.cap, .slice r_r0.2.1.a r0.left.length r_r0.2.1.cap, .slice r_r0.2.2.1.a r0.cost.length r_r0.2.2.1.cap, .slice r_r0.2.2.2.1.a r0.from_.length r_r0.2.2.2.1.cap, .slice r_r0.2.2.2.2.1.a r0.excess.length r_r0.2.2.2.2.1.cap, .slice r_r0.2.2.2.2.2.a r0.price.length r_r0.2.2.2.2.2.cap], trow 3 r_r0.1 r0.to, trow 3 r_r0.2.1 r0.left, trow 3 r_r0.2.2.1 r0.cost, rows2 (fun _ => True) 22 3 r_r0.2.2.2.1 r0.from_, trow 3 r_r0.2.2.2.2.1 r0.excess, trow 3 r_r0.2.2.2.2.2 r0.price] (fun g => .tuple #[]) (fun g => [own b_r0 91 [.int .i64 r0.nodes, .int .i64 r0.arcs, .slice g.1.a y.1.length g.1.cap, .slice g.2.1.a y.2.1.length g.2.1.cap, .slice g.2.2.1.a y.2.2.1.length g.2.2.1.cap, .slice g.2.2.2.a y.2.2.2.length g.2.2.2.cap, .slice r_r0.2.2.2.2.1.a r0.excess.length r_r0.2.2.2.2.1.cap, .slice r_r0.2.2.2.2.2.a r0.price.length r_r0.2.2.2.2.2.cap], trow 3 g.1 y.1, trow 3 g.2.1 y.2.1, trow 3 g.2.2.1 y.2.2.1, rows2 (fun _ => True) 22 3 g.2.2.2 y.2.2.2, trow 3 r_r0.2.2.2.2.1 r0.excess, trow 3 r_r0.2.2.2.2.2 r0.price]) w) := by
  refine calls_cw (args := [_, _, _, _, _]) Try.func75 rfl (hP.start) rfl ?_
  unfold flow_residual_add_m at hM
  refine cw_seq fun K1 hK1 => ?_
  refine cw_region_z [own b_r0 91 [.int .i64 r0.nodes, .int .i64 r0.arcs, .slice r_r0.1.a r0.to.length r_r0.1.cap, .slice r_r0.2.1.a r0.left.length r_r0.2.1.cap, .slice r_r0.2.2.1.a r0.cost.length r_r0.2.2.1.cap, .slice r_r0.2.2.2.1.a r0.from_.length r_r0.2.2.2.1.cap, .slice r_r0.2.2.2.2.1.a r0.excess.length r_r0.2.2.2.2.1.cap, .slice r_r0.2.2.2.2.2.a r0.price.length r_r0.2.2.2.2.2.cap], trow 3 r_r0.1 r0.to, trow 3 r_r0.2.1 r0.left, trow 3 r_r0.2.2.1 r0.cost, rows2 (fun _ => False) 22 3 r_r0.2.2.2.1 r0.from_, trow 3 r_r0.2.2.2.2.1 r0.excess, trow 3 r_r0.2.2.2.2.2 r0.price] 20 ?_
  refine az_ev 0 rfl ev_move ?_ (himp := fun w hm => (hm.weak2 (on' := fun _ => False) (r := r_r0.2.2.2.1) (fun _ h => h.elim) (by repeat (first | exact Upd.head | apply Upd.tail))).reord)
  refine az_ev 1 rfl ev_nilcheck ?_ (himp := fun w hm => (hm.weak2 (on' := fun _ => False) (r := r_r0.2.2.2.1) (fun _ h => h.elim) (by repeat (first | exact Upd.head | apply Upd.tail))).reord)
  refine az_ev 2 rfl (ev_field_addr 5) ?_ (himp := fun w hm => (hm.weak2 (on' := fun _ => False) (r := r_r0.2.2.2.1) (fun _ h => h.elim) (by repeat (first | exact Upd.head | apply Upd.tail))).reord)
  refine az_ev 3 rfl (ev_load_own (b := b_r0)) ?_ (himp := fun w hm => (hm.weak2 (on' := fun _ => False) (r := r_r0.2.2.2.1) (fun _ h => h.elim) (by repeat (first | exact Upd.head | apply Upd.tail))).reord)
  refine az_ev 4 rfl ev_move ?_ (himp := fun w hm => (hm.weak2 (on' := fun _ => False) (r := r_r0.2.2.2.1) (fun _ h => h.elim) (by repeat (first | exact Upd.head | apply Upd.tail))).reord)
  refine az_ev 5 rfl ev_move ?_ (himp := fun w hm => (hm.weak2 (on' := fun _ => False) (r := r_r0.2.2.2.1) (fun _ h => h.elim) (by repeat (first | exact Upd.head | apply Upd.tail))).reord)
  refine az_ev 6 rfl ev_nilcheck ?_ (himp := fun w hm => (hm.weak2 (on' := fun _ => False) (r := r_r0.2.2.2.1) (fun _ h => h.elim) (by repeat (first | exact Upd.head | apply Upd.tail))).reord)
  refine az_ev 7 rfl (ev_field_addr 5) ?_ (himp := fun w hm => (hm.weak2 (on' := fun _ => False) (r := r_r0.2.2.2.1) (fun _ h => h.elim) (by repeat (first | exact Upd.head | apply Upd.tail))).reord)
  refine az_ev 8 rfl (ev_load_own (b := b_r0)) ?_ (himp := fun w hm => (hm.weak2 (on' := fun _ => False) (r := r_r0.2.2.2.1) (fun _ h => h.elim) (by repeat (first | exact Upd.head | apply Upd.tail))).reord)
  refine az_ev 9 rfl ev_move ?_ (himp := fun w hm => (hm.weak2 (on' := fun _ => False) (r := r_r0.2.2.2.1) (fun _ h => h.elim) (by repeat (first | exact Upd.head | apply Upd.tail))).reord)
  obtain ⟨x1, hx2, hM⟩ := bind_some hM
  refine az_ev 10 rfl (ev_idx2 (r := r_r0.2.2.2.1) (xs := r0.from_) (by repeat (first | exact Has.head | apply Has.tail)) (fun hg => let h := idx_some hx2; ⟨h.1, h.2.1⟩)) ?_ (himp := fun w hm => (hm.weak2 (on' := fun _ => False) (r := r_r0.2.2.2.1) (fun _ h => h.elim) (by repeat (first | exact Upd.head | apply Upd.tail))).reord)
  refine az_ev 11 rfl (ev_ld2 (r := r_r0.2.2.2.1) (xs := r0.from_) (i := from0) (by repeat (first | exact Has.head | apply Has.tail)) (fun _ => hx2)) ?_ (himp := fun w hm => (hm.weak2 (on' := fun _ => False) (r := r_r0.2.2.2.1) (fun _ h => h.elim) (by repeat (first | exact Upd.head | apply Upd.tail))).reord)
  refine az_ev 12 rfl ev_move ?_ (himp := fun w hm => (hm.weak2 (on' := fun _ => False) (r := r_r0.2.2.2.1) (fun _ h => h.elim) (by repeat (first | exact Upd.head | apply Upd.tail))).reord)
  refine az_ev 13 rfl ev_nilcheck ?_ (himp := fun w hm => (hm.weak2 (on' := fun _ => False) (r := r_r0.2.2.2.1) (fun _ h => h.elim) (by repeat (first | exact Upd.head | apply Upd.tail))).reord)
  refine az_ev 14 rfl (ev_field_addr 2) ?_ (himp := fun w hm => (hm.weak2 (on' := fun _ => False) (r := r_r0.2.2.2.1) (fun _ h => h.elim) (by repeat (first | exact Upd.head | apply Upd.tail))).reord)
  refine az_ev 15 rfl (ev_load_own (b := b_r0)) ?_ (himp := fun w hm => (hm.weak2 (on' := fun _ => False) (r := r_r0.2.2.2.1) (fun _ h => h.elim) (by repeat (first | exact Upd.head | apply Upd.tail))).reord)
  refine az_ev 16 rfl ev_len ?_ (himp := fun w hm => (hm.weak2 (on' := fun _ => False) (r := r_r0.2.2.2.1) (fun _ h => h.elim) (by repeat (first | exact Upd.head | apply Upd.tail))).reord)
  refine az_one 17 rfl (st_bslice (α := Int) 3 (fun _ => ()) ([(r0.to.length : Int)] : List Int) (OkL.flat (fun _ _ _ _ => trivial)) (fun r3 => ⟨fun w hm => (hm.weak2 (on' := fun _ => False) (r := r_r0.2.2.2.1) (fun _ h => h.elim) (by repeat (first | exact Upd.head | apply Upd.tail))).reord, ?_⟩))
  refine az_imp (fun w hm => hm.open2 (e := 22) (e2 := 3) (r := r_r0.2.2.2.1) (xs := r0.from_) hx2 (by repeat (first | exact Sel.head | apply Sel.tail))) ?_
  obtain ⟨hb4, hM⟩ := chk_some hM
  refine az_one 18 rfl (st_append (r := (r_r0.2.2.2.1.es from0.toNat)) (r2 := r3) (by intro r'; repeat (first | exact Upd.head | apply Upd.tail)) (Kn.trow (e := 3) (r := r3) (by repeat (first | exact Has.head | apply Has.tail))) (OkL.flat (fun _ _ _ _ => trivial)) (of_decide_eq_true hb4) (fun r5 => ⟨fun w hm => (hm.weak2 (on' := fun _ => False) (r := r_r0.2.2.2.1) (fun _ h => h.elim) (by repeat (first | exact Upd.head | apply Upd.tail))).reord, ?_⟩))
  obtain ⟨x6, hx7, hM⟩ := bind_some hM
  refine az_ev 19 rfl (ev_idx2 (r := r_r0.2.2.2.1) (xs := r0.from_) (by repeat (first | exact Has.head | apply Has.tail)) (fun hg => let h := idx_some hx7; ⟨h.1, h.2.1⟩)) ?_ (himp := fun w hm => (hm.weak2 (on' := fun _ => False) (r := r_r0.2.2.2.1) (fun _ h => h.elim) (by repeat (first | exact Upd.head | apply Upd.tail))).reord)
  refine az_last rfl (st_set2 (r := r_r0.2.2.2.1) (xs := r0.from_) (i := from0) (q := r5) (u' := (x1 ++ ([(r0.to.length : Int)] : List Int))) hx2 (by repeat (first | exact Upd.head | apply Upd.tail)) ?_)
  refine az_imp (fun w hm => hm.shut2 (e := 22) (e2 := 3) (r := r_r0.2.2.2.1) (xs := r0.from_) (q := r5) (u' := (x1 ++ ([(r0.to.length : Int)] : List Int))) hx2 (by repeat (first | exact Sel.head | apply Sel.tail)) (by repeat (first | exact Sel.head | apply Sel.tail))) ?_
  refine az_done (hK1 _ _ ?_); clear hK1
  refine cw_seq fun K2 hK2 => ?_
  refine cw_region_z [rows2 (fun _ => False) 22 3 (r_r0.2.2.2.1.upd from0.toNat r5) (r0.from_.set from0.toNat (x1 ++ ([(r0.to.length : Int)] : List Int))), trow 3 r3 ([(r0.to.length : Int)] : List Int), own b_r0 91 [.int .i64 r0.nodes, .int .i64 r0.arcs, .slice r_r0.1.a r0.to.length r_r0.1.cap, .slice r_r0.2.1.a r0.left.length r_r0.2.1.cap, .slice r_r0.2.2.1.a r0.cost.length r_r0.2.2.1.cap, .slice (r_r0.2.2.2.1.upd from0.toNat r5).a r0.from_.length (r_r0.2.2.2.1.upd from0.toNat r5).cap, .slice r_r0.2.2.2.2.1.a r0.excess.length r_r0.2.2.2.2.1.cap, .slice r_r0.2.2.2.2.2.a r0.price.length r_r0.2.2.2.2.2.cap], trow 3 r_r0.1 r0.to, trow 3 r_r0.2.1 r0.left, trow 3 r_r0.2.2.1 r0.cost, trow 3 r_r0.2.2.2.2.1 r0.excess, trow 3 r_r0.2.2.2.2.2 r0.price] 21 ?_
  refine az_ev 0 rfl ev_move ?_ (himp := fun w hm => (hm.weak2 (on' := fun _ => False) (r := (r_r0.2.2.2.1.upd from0.toNat r5)) (fun _ h => h.elim) (by repeat (first | exact Upd.head | apply Upd.tail))).reord)
  refine az_ev 1 rfl ev_nilcheck ?_ (himp := fun w hm => (hm.weak2 (on' := fun _ => False) (r := (r_r0.2.2.2.1.upd from0.toNat r5)) (fun _ h => h.elim) (by repeat (first | exact Upd.head | apply Upd.tail))).reord)
  refine az_ev 2 rfl (ev_field_addr 5) ?_ (himp := fun w hm => (hm.weak2 (on' := fun _ => False) (r := (r_r0.2.2.2.1.upd from0.toNat r5)) (fun _ h => h.elim) (by repeat (first | exact Upd.head | apply Upd.tail))).reord)
  refine az_ev 3 rfl (ev_load_own (b := b_r0)) ?_ (himp := fun w hm => (hm.weak2 (on' := fun _ => False) (r := (r_r0.2.2.2.1.upd from0.toNat r5)) (fun _ h => h.elim) (by repeat (first | exact Upd.head | apply Upd.tail))).reord)
  refine az_ev 4 rfl ev_move ?_ (himp := fun w hm => (hm.weak2 (on' := fun _ => False) (r := (r_r0.2.2.2.1.upd from0.toNat r5)) (fun _ h => h.elim) (by repeat (first | exact Upd.head | apply Upd.tail))).reord)
  refine az_ev 5 rfl ev_move ?_ (himp := fun w hm => (hm.weak2 (on' := fun _ => False) (r := (r_r0.2.2.2.1.upd from0.toNat r5)) (fun _ h => h.elim) (by repeat (first | exact Upd.head | apply Upd.tail))).reord)
  refine az_ev 6 rfl ev_nilcheck ?_ (himp := fun w hm => (hm.weak2 (on' := fun _ => False) (r := (r_r0.2.2.2.1.upd from0.toNat r5)) (fun _ h => h.elim) (by repeat (first | exact Upd.head | apply Upd.tail))).reord)
  refine az_ev 7 rfl (ev_field_addr 5) ?_ (himp := fun w hm => (hm.weak2 (on' := fun _ => False) (r := (r_r0.2.2.2.1.upd from0.toNat r5)) (fun _ h => h.elim) (by repeat (first | exact Upd.head | apply Upd.tail))).reord)
  refine az_ev 8 rfl (ev_load_own (b := b_r0)) ?_ (himp := fun w hm => (hm.weak2 (on' := fun _ => False) (r := (r_r0.2.2.2.1.upd from0.toNat r5)) (fun _ h => h.elim) (by repeat (first | exact Upd.head | apply Upd.tail))).reord)
  refine az_ev 9 rfl ev_move ?_ (himp := fun w hm => (hm.weak2 (on' := fun _ => False) (r := (r_r0.2.2.2.1.upd from0.toNat r5)) (fun _ h => h.elim) (by repeat (first | exact Upd.head | apply Upd.tail))).reord)
  obtain ⟨x8, hx9, hM⟩ := bind_some hM
  refine az_ev 10 rfl (ev_idx2 (r := (r_r0.2.2.2.1.upd from0.toNat r5)) (xs := (r0.from_.set from0.toNat (x1 ++ ([(r0.to.length : Int)] : List Int)))) (by repeat (first | exact Has.head | apply Has.tail)) (fun hg => let h := idx_some hx9; ⟨h.1, h.2.1⟩)) ?_ (himp := fun w hm => (hm.weak2 (on' := fun _ => False) (r := (r_r0.2.2.2.1.upd from0.toNat r5)) (fun _ h => h.elim) (by repeat (first | exact Upd.head | apply Upd.tail))).reord)
  refine az_ev 11 rfl (ev_ld2 (r := (r_r0.2.2.2.1.upd from0.toNat r5)) (xs := (r0.from_.set from0.toNat (x1 ++ ([(r0.to.length : Int)] : List Int)))) (i := to0) (by repeat (first | exact Has.head | apply Has.tail)) (fun _ => hx9)) ?_ (himp := fun w hm => (hm.weak2 (on' := fun _ => False) (r := (r_r0.2.2.2.1.upd from0.toNat r5)) (fun _ h => h.elim) (by repeat (first | exact Upd.head | apply Upd.tail))).reord)
  refine az_ev 12 rfl ev_move ?_ (himp := fun w hm => (hm.weak2 (on' := fun _ => False) (r := (r_r0.2.2.2.1.upd from0.toNat r5)) (fun _ h => h.elim) (by repeat (first | exact Upd.head | apply Upd.tail))).reord)
  refine az_ev 13 rfl ev_nilcheck ?_ (himp := fun w hm => (hm.weak2 (on' := fun _ => False) (r := (r_r0.2.2.2.1.upd from0.toNat r5)) (fun _ h => h.elim) (by repeat (first | exact Upd.head | apply Upd.tail))).reord)
  refine az_ev 14 rfl (ev_field_addr 2) ?_ (himp := fun w hm => (hm.weak2 (on' := fun _ => False) (r := (r_r0.2.2.2.1.upd from0.toNat r5)) (fun _ h => h.elim) (by repeat (first | exact Upd.head | apply Upd.tail))).reord)
  refine az_ev 15 rfl (ev_load_own (b := b_r0)) ?_ (himp := fun w hm => (hm.weak2 (on' := fun _ => False) (r := (r_r0.2.2.2.1.upd from0.toNat r5)) (fun _ h => h.elim) (by repeat (first | exact Upd.head | apply Upd.tail))).reord)
  refine az_ev 16 rfl ev_len ?_ (himp := fun w hm => (hm.weak2 (on' := fun _ => False) (r := (r_r0.2.2.2.1.upd from0.toNat r5)) (fun _ h => h.elim) (by repeat (first | exact Upd.head | apply Upd.tail))).reord)
  obtain ⟨hI10, hM⟩ := chk_some hM
  refine az_ev 17 rfl (ev_add (hr := fun hg => i64b_I64 hI10)) ?_ (himp := fun w hm => (hm.weak2 (on' := fun _ => False) (r := (r_r0.2.2.2.1.upd from0.toNat r5)) (fun _ h => h.elim) (by repeat (first | exact Upd.head | apply Upd.tail))).reord)
  refine az_one 18 rfl (st_bslice (α := Int) 3 (fun _ => ()) ([((r0.to.length : Int) + 1)] : List Int) (OkL.flat (fun _ _ _ _ => trivial)) (fun r11 => ⟨fun w hm => (hm.weak2 (on' := fun _ => False) (r := (r_r0.2.2.2.1.upd from0.toNat r5)) (fun _ h => h.elim) (by repeat (first | exact Upd.head | apply Upd.tail))).reord, ?_⟩))
  refine az_imp (fun w hm => hm.open2 (e := 22) (e2 := 3) (r := (r_r0.2.2.2.1.upd from0.toNat r5)) (xs := (r0.from_.set from0.toNat (x1 ++ ([(r0.to.length : Int)] : List Int)))) hx9 (by repeat (first | exact Sel.head | apply Sel.tail))) ?_
  obtain ⟨hb12, hM⟩ := chk_some hM
  refine az_one 19 rfl (st_append (r := ((r_r0.2.2.2.1.upd from0.toNat r5).es to0.toNat)) (r2 := r11) (by intro r'; repeat (first | exact Upd.head | apply Upd.tail)) (Kn.trow (e := 3) (r := r11) (by repeat (first | exact Has.head | apply Has.tail))) (OkL.flat (fun _ _ _ _ => trivial)) (of_decide_eq_true hb12) (fun r13 => ⟨fun w hm => (hm.weak2 (on' := fun _ => False) (r := (r_r0.2.2.2.1.upd from0.toNat r5)) (fun _ h => h.elim) (by repeat (first | exact Upd.head | apply Upd.tail))).reord, ?_⟩))
  obtain ⟨x14, hx15, hM⟩ := bind_some hM
  refine az_ev 20 rfl (ev_idx2 (r := (r_r0.2.2.2.1.upd from0.toNat r5)) (xs := (r0.from_.set from0.toNat (x1 ++ ([(r0.to.length : Int)] : List Int)))) (by repeat (first | exact Has.head | apply Has.tail)) (fun hg => let h := idx_some hx15; ⟨h.1, h.2.1⟩)) ?_ (himp := fun w hm => (hm.weak2 (on' := fun _ => False) (r := (r_r0.2.2.2.1.upd from0.toNat r5)) (fun _ h => h.elim) (by repeat (first | exact Upd.head | apply Upd.tail))).reord)
  refine az_last rfl (st_set2 (r := (r_r0.2.2.2.1.upd from0.toNat r5)) (xs := (r0.from_.set from0.toNat (x1 ++ ([(r0.to.length : Int)] : List Int)))) (i := to0) (q := r13) (u' := (x8 ++ ([((r0.to.length : Int) + 1)] : List Int))) hx9 (by repeat (first | exact Upd.head | apply Upd.tail)) ?_)
  refine az_imp (fun w hm => hm.shut2 (e := 22) (e2 := 3) (r := (r_r0.2.2.2.1.upd from0.toNat r5)) (xs := (r0.from_.set from0.toNat (x1 ++ ([(r0.to.length : Int)] : List Int)))) (q := r13) (u' := (x8 ++ ([((r0.to.length : Int) + 1)] : List Int))) hx9 (by repeat (first | exact Sel.head | apply Sel.tail)) (by repeat (first | exact Sel.head | apply Sel.tail))) ?_
  refine az_done (hK2 _ _ ?_); clear hK2
  refine cw_seq fun K3 hK3 => ?_
  refine cw_region ?_
  refine ow_ev ev_move ?_
  refine ow_ev ev_move ?_
  refine ow_ev ev_nilcheck ?_
  refine ow_ev (ev_field_addr 2) ?_
  refine ow_ev (ev_load_own (b := b_r0)) ?_
  refine ow_ev ev_move ?_
  refine ow_ev ev_move ?_
  refine ow_cons (st_bslice (α := Int) 3 (fun _ => ()) ([to0, from0] : List Int) (OkL.flat (fun _ _ _ _ => trivial)) (fun r16 => ?_))
  obtain ⟨hb17, hM⟩ := chk_some hM
  refine ow_cons (st_append (r := r_r0.1) (r2 := r16) (by intro r'; repeat (first | exact Upd.head | apply Upd.tail)) (Kn.trow (e := 3) (r := r16) (by repeat (first | exact Has.head | apply Has.tail))) (OkL.flat (fun _ _ _ _ => trivial)) (of_decide_eq_true hb17) (fun r18 => ?_))
  refine ow_ev ev_nilcheck ?_
  refine ow_ev (ev_field_addr 2) ?_
  refine ow_cons (st_store_own (b := b_r0) (l' := [.int .i64 r0.nodes, .int .i64 r0.arcs, .slice r18.a ((r0.to ++ ([to0, from0] : List Int)).length) r18.cap, .slice r_r0.2.1.a r0.left.length r_r0.2.1.cap, .slice r_r0.2.2.1.a r0.cost.length r_r0.2.2.1.cap, .slice ((r_r0.2.2.2.1.upd from0.toNat r5).upd to0.toNat r13).a r0.from_.length ((r_r0.2.2.2.1.upd from0.toNat r5).upd to0.toNat r13).cap, .slice r_r0.2.2.2.2.1.a r0.excess.length r_r0.2.2.2.2.1.cap, .slice r_r0.2.2.2.2.2.a r0.price.length r_r0.2.2.2.2.2.cap]) (k := ?_))
  refine ow_nil (hK3 _ _ ?_); clear hK3
  refine cw_seq fun K4 hK4 => ?_
  refine cw_region ?_
  refine ow_ev ev_move ?_
  refine ow_ev ev_move ?_
  refine ow_ev ev_nilcheck ?_
  refine ow_ev (ev_field_addr 3) ?_
  refine ow_ev (ev_load_own (b := b_r0)) ?_
  refine ow_ev ev_move ?_
  refine ow_cons (st_bslice (α := Int) 3 (fun _ => ()) ([limit0, 0] : List Int) (OkL.flat (fun _ _ _ _ => trivial)) (fun r19 => ?_))
  obtain ⟨hb20, hM⟩ := chk_some hM
  refine ow_cons (st_append (r := r_r0.2.1) (r2 := r19) (by intro r'; repeat (first | exact Upd.head | apply Upd.tail)) (Kn.trow (e := 3) (r := r19) (by repeat (first | exact Has.head | apply Has.tail))) (OkL.flat (fun _ _ _ _ => trivial)) (of_decide_eq_true hb20) (fun r21 => ?_))
  refine ow_ev ev_nilcheck ?_
  refine ow_ev (ev_field_addr 3) ?_
  refine ow_cons (st_store_own (b := b_r0) (l' := [.int .i64 r0.nodes, .int .i64 r0.arcs, .slice r18.a ((r0.to ++ ([to0, from0] : List Int)).length) r18.cap, .slice r21.a ((r0.left ++ ([limit0, 0] : List Int)).length) r21.cap, .slice r_r0.2.2.1.a r0.cost.length r_r0.2.2.1.cap, .slice ((r_r0.2.2.2.1.upd from0.toNat r5).upd to0.toNat r13).a r0.from_.length ((r_r0.2.2.2.1.upd from0.toNat r5).upd to0.toNat r13).cap, .slice r_r0.2.2.2.2.1.a r0.excess.length r_r0.2.2.2.2.1.cap, .slice r_r0.2.2.2.2.2.a r0.price.length r_r0.2.2.2.2.2.cap]) (k := ?_))
  refine ow_nil (hK4 _ _ ?_); clear hK4
  refine cw_region ?_
  refine ow_ev ev_move ?_
  refine ow_ev ev_move ?_
  refine ow_ev ev_nilcheck ?_
  refine ow_ev (ev_field_addr 4) ?_
  refine ow_ev (ev_load_own (b := b_r0)) ?_
  refine ow_ev ev_move ?_
  refine ow_ev ev_move ?_
  obtain ⟨hI22, hM⟩ := chk_some hM
  refine ow_ev (ev_neg (hr := fun hg => i64b_I64 hI22)) ?_
  refine ow_cons (st_bslice (α := Int) 3 (fun _ => ()) ([cost0, (-cost0)] : List Int) (OkL.flat (fun _ _ _ _ => trivial)) (fun r23 => ?_))
  obtain ⟨hb24, hM⟩ := chk_some hM
  refine ow_cons (st_append (r := r_r0.2.2.1) (r2 := r23) (by intro r'; repeat (first | exact Upd.head | apply Upd.tail)) (Kn.trow (e := 3) (r := r23) (by repeat (first | exact Has.head | apply Has.tail))) (OkL.flat (fun _ _ _ _ => trivial)) (of_decide_eq_true hb24) (fun r25 => ?_))
  refine ow_ev ev_nilcheck ?_
  refine ow_ev (ev_field_addr 4) ?_
  refine ow_cons (st_store_own (b := b_r0) (l' := [.int .i64 r0.nodes, .int .i64 r0.arcs, .slice r18.a ((r0.to ++ ([to0, from0] : List Int)).length) r18.cap, .slice r21.a ((r0.left ++ ([limit0, 0] : List Int)).length) r21.cap, .slice r25.a ((r0.cost ++ ([cost0, (-cost0)] : List Int)).length) r25.cap, .slice ((r_r0.2.2.2.1.upd from0.toNat r5).upd to0.toNat r13).a r0.from_.length ((r_r0.2.2.2.1.upd from0.toNat r5).upd to0.toNat r13).cap, .slice r_r0.2.2.2.2.1.a r0.excess.length r_r0.2.2.2.2.1.cap, .slice r_r0.2.2.2.2.2.a r0.price.length r_r0.2.2.2.2.2.cap]) (k := ?_))
  obtain rfl := some_inj hM
  refine ow_nil (kw_end0 rfl (fun w hm => by simp only [List.length_set]; exact post_of (r18, r21, r25, ((r_r0.2.2.2.1.upd from0.toNat r5).upd to0.toNat r13)) hm rfl))

def flow_newResidual_k3 (lr_2_6 : List Int) (g0 : Graph) (lr_2_2 : List Int) (lr_2_3 : List Int) (lr_2_4 : List Int) (lr_2_5 : List (List Int)) (lr_j1_7 : List Int) : Unit → Option Flow_residual := fun _ =>
  chk (decide ((lr_2_6.length + ([0] : List Int).length) * 8 ≤ 140737488355328)) <|
  some (Flow_residual.mk (g0.Supply.length : Int) (g0.Arcs.length : Int) lr_2_2 lr_2_3 lr_2_4 lr_2_5 (lr_2_6 ++ ([0] : List Int)) lr_j1_7)
def flow_newResidual_b2 (g0 : Graph) (lr_j1_7 : List Int) (cont2 : ((List Int) × (List Int) × (List Int) × (List (List Int)) × (List Int) × Nat) → Option Flow_residual) : ((List Int) × (List Int) × (List Int) × (List (List Int)) × (List Int) × Nat) → Option Flow_residual := fun (lr_2_2, lr_2_3, lr_2_4, lr_2_5, lr_2_6, t45_2) =>
  if decide ((t45_2 : Int) < (g0.Supply.length : Int)) then
    ((idx g0.Supply (t45_2 : Int)).bind fun x16 =>
    (flow_residual_add_m (Flow_residual.mk (g0.Supply.length : Int) (g0.Arcs.length : Int) lr_2_2 lr_2_3 lr_2_4 lr_2_5 lr_2_6 lr_j1_7) (t45_2 : Int) (g0.Supply.length : Int) 1099511627776 201326592).bind fun y18 =>
    (flow_residual_add_m (Flow_residual.mk (g0.Supply.length : Int) (g0.Arcs.length : Int) y18.1 y18.2.1 y18.2.2.1 y18.2.2.2 lr_2_6 lr_j1_7) (g0.Supply.length : Int) (t45_2 : Int) 1099511627776 201326592).bind fun y21 =>
    chk (decide ((lr_2_6.length + ([x16] : List Int).length) * 8 ≤ 140737488355328)) <|
    cont2 (y21.1, y21.2.1, y21.2.2.1, y21.2.2.2, (lr_2_6 ++ ([x16] : List Int)), t45_2 + 1))
  else
    (flow_newResidual_k3 lr_2_6 g0 lr_2_2 lr_2_3 lr_2_4 lr_2_5 lr_j1_7 ())
def flow_newResidual_k2 (g0 : Graph) (lr_j1_7 : List Int) (lr_1_2 : List Int) (lr_1_3 : List Int) (lr_1_4 : List Int) (lr_1_5 : List (List Int)) : Unit → Option Flow_residual := fun _ =>
  iter (flow_newResidual_b2 g0 lr_j1_7) FUEL (lr_1_2, lr_1_3, lr_1_4, lr_1_5, ([] : List Int), 0)
def flow_newResidual_b1 (g0 : Graph) (lr_j1_7 : List Int) (cont1 : ((List Int) × (List Int) × (List Int) × (List (List Int)) × Nat) → Option Flow_residual) : ((List Int) × (List Int) × (List Int) × (List (List Int)) × Nat) → Option Flow_residual := fun (lr_1_2, lr_1_3, lr_1_4, lr_1_5, t27_1) =>
  if decide ((t27_1 : Int) < (g0.Arcs.length : Int)) then
    ((idx g0.Arcs (t27_1 : Int)).bind fun x8 =>
    (flow_residual_add_m (Flow_residual.mk (g0.Supply.length : Int) (g0.Arcs.length : Int) lr_1_2 lr_1_3 lr_1_4 lr_1_5 ([] : List Int) lr_j1_7) x8.From x8.To x8.Cap x8.Cost).bind fun y11 =>
    cont1 (y11.1, y11.2.1, y11.2.2.1, y11.2.2.2, t27_1 + 1))
  else
    (flow_newResidual_k2 g0 lr_j1_7 lr_1_2 lr_1_3 lr_1_4 lr_1_5 ())
def flow_newResidual_k1 (g0 : Graph) : ((List (List Int)) × (List Int)) → Option Flow_residual := fun (lr_j1_5, lr_j1_7) =>
  iter (flow_newResidual_b1 g0 lr_j1_7) FUEL (([] : List Int), ([] : List Int), ([] : List Int), lr_j1_5, 0)
def flow_newResidual_m (g0 : Graph) : Option Flow_residual :=
  chk (i64b ((g0.Supply.length : Int) + 1)) <|
  chk (i64b ((g0.Supply.length : Int) + 1)) <|
  (mk (α := List Int) ([] : List Int) ((g0.Supply.length : Int) + 1)).bind fun m32 =>
  (mk (α := Int) 0 ((g0.Supply.length : Int) + 1)).bind fun m34 =>
  flow_newResidual_k1 g0 (m32, m34)
theorem flow_newResidual_spec (S : Soup) (w : World) (g0 : Graph) (r_g0 : GoRep.R Graph) (y : Flow_residual) (hM : flow_newResidual_m g0 = some y) (hS : ∀ k, S k → k < w.heap.size) (h_g0 : GoRep.ok S w r_g0 g0) :
    Calls Try.prog 54 #[.agg #[.slice r_g0.1.a g0.Supply.length r_g0.1.cap, .slice r_g0.2.a g0.Arcs.length r_g0.2.cap]] w (Post (β := Nat × (GoRep.R (List Int)) × (GoRep.R (List Int)) × (GoRep.R (List Int)) × (GoRep.R (List (List Int))) × (GoRep.R (List Int)) × (GoRep.R (List Int))) S [] (fun g => .pointer (some ⟨g.1, 0, none⟩)) (fun g => [own g.1 91 [.int .i64 y.nodes, .int .i64 y.arcs, .slice g.2.1.a y.to.length g.2.1.cap, .slice g.2.2.1.a y.left.length g.2.2.1.cap, .slice g.2.2.2.1.a y.cost.length g.2.2.2.1.cap, .slice g.2.2.2.2.1.a y.from_.length g.2.2.2.2.1.cap, .slice g.2.2.2.2.2.1.a y.excess.length g.2.2.2.2.2.1.cap, .slice g.2.2.2.2.2.2.a y.price.length g.2.2.2.2.2.2.cap], trow 3 g.2.1 y.to, trow 3 g.2.2.1 y.left, trow 3 g.2.2.2.1 y.cost, rows2 (fun _ => True) 22 3 g.2.2.2.2.1 y.from_, trow 3 g.2.2.2.2.2.1 y.excess, trow 3 g.2.2.2.2.2.2 y.price]) w) := by
  refine calls_cw (args := [_]) Try.func54 rfl ((pre_nil hS).start |>.immP (α := List Int) (r := r_g0.1) (x := g0.Supply) h_g0.1|>.immP (α := List Arc) (r := r_g0.2) (x := g0.Arcs) h_g0.2) rfl ?_
  unfold flow_newResidual_m at hM
  refine cw_seq fun K1 hK1 => ?_
  refine cw_region ?_
  refine ow_cons (st_box (l := [.slice r_g0.1.a g0.Supply.length r_g0.1.cap, .slice r_g0.2.a g0.Arcs.length r_g0.2.cap]) (k := fun b1 => ?_))
  refine ow_ev ev_assign ?_
  refine ow_nil (hK1 _ _ ?_); clear hK1
  refine cw_seq fun K2 hK2 => ?_
  refine cw_region ?_
  refine ow_ev (ev_field_addr 0) ?_
  refine ow_ev (ev_load_own (b := b1)) ?_
  refine ow_ev ev_len ?_
  refine ow_ev ev_assign ?_
  refine ow_nil (hK2 _ _ ?_); clear hK2
  refine cw_cut (γ := ((List (List Int)) × (List Int)) × (Nat × (SR (GoRep.R (List Int))) × (SR (GoRep.R Int)))) (env := fun ((lr_j1_5, lr_j1_7), (br_j1, rr_j1_5, rr_j1_7)) => [(1, .v (.pointer (some ⟨b1, 0, none⟩))), (3, .v (.int .i64 (g0.Supply.length : Int))), (4, .v (.pointer (some ⟨br_j1, 0, none⟩)))]) (mem := fun ((lr_j1_5, lr_j1_7), (br_j1, rr_j1_5, rr_j1_7)) => [imm (α := (List Int)) r_g0.1 g0.Supply, imm (α := (List Arc)) r_g0.2 g0.Arcs, own b1 25 [.slice r_g0.1.a g0.Supply.length r_g0.1.cap, .slice r_g0.2.a g0.Arcs.length r_g0.2.cap], rows2 (fun _ => True) 22 3 rr_j1_5 lr_j1_5, trow 3 rr_j1_7 lr_j1_7, own br_j1 91 [.int .i64 (g0.Supply.length : Int), .int .i64 (g0.Arcs.length : Int), .slice none 0 0, .slice none 0 0, .slice none 0 0, .slice rr_j1_5.a lr_j1_5.length rr_j1_5.cap, .slice none 0 0, .slice rr_j1_7.a lr_j1_7.length rr_j1_7.cap]]) (R := fun g => flow_newResidual_k1 g0 g.1 = some y) ?_ ?_
  · intro KJ1 hJ1
    refine cw_region_any _ (List.Sublist.refl _) ?_
    refine aw_ev 0 rfl ev_move ?_
    refine aw_ev 1 rfl (ev_field_addr 1) ?_
    refine aw_ev 2 rfl (ev_load_own (b := b1)) ?_
    refine aw_ev 3 rfl ev_len ?_
    refine aw_ev 4 rfl ev_move ?_
    obtain ⟨hI30, hM⟩ := chk_some hM
    refine aw_ev 5 rfl (ev_add (hr := fun hg => i64b_I64 hI30)) ?_
    refine aw_ev 7 rfl ev_move ?_
    obtain ⟨hI31, hM⟩ := chk_some hM
    refine aw_ev 8 rfl (ev_add (hr := fun hg => i64b_I64 hI31)) ?_
    obtain ⟨m32, hm33, hM⟩ := bind_some hM
    obtain ⟨m34, hm35, hM⟩ := bind_some hM
    refine aw_two 6 9 (⟨_, rfl, rfl, st_make (α := List Int) (e := 22) ([] : List Int) (⟨none, 0, (fun _ => ())⟩ : SR (GoRep.R Int)) hm33 (fun S w => okNil S w) (fun r36 hr36 => ⟨fun w hm => hm.sub (by repeat (first | exact List.Sublist.refl _ | apply List.Sublist.cons_cons | apply List.Sublist.cons)), ?_⟩)⟩) (⟨_, rfl, rfl, st_make (α := Int) (e := 3) 0 () hm35 (fun _ _ => trivial) (fun r37 hr37 => ⟨fun w hm => hm.sub (by repeat (first | exact List.Sublist.refl _ | apply List.Sublist.cons_cons | apply List.Sublist.cons)), ?_⟩)⟩)
    ·
      refine aw_imp (fun w hm => hm.nil2 (e2 := 3) (r := r36) hm33 hr36 (by repeat (first | exact Upd.head | apply Upd.tail))) ?_
      refine aw_one 9 rfl (st_make (α := Int) (e := 3) 0 () hm35 (fun _ _ => trivial) (fun r38 hr38 => ⟨fun w hm => hm.sub (by repeat (first | exact List.Sublist.refl _ | apply List.Sublist.cons_cons | apply List.Sublist.cons)), ?_⟩))
      refine aw_ev 10 rfl (ev_build [.int .i64 (g0.Supply.length : Int), .int .i64 (g0.Arcs.length : Int), .slice none 0 0, .slice none 0 0, .slice none 0 0, .slice r36.a m32.length r36.cap, .slice none 0 0, .slice r38.a m34.length r38.cap]) ?_
      refine aw_one 11 rfl (st_box (l := [.int .i64 (g0.Supply.length : Int), .int .i64 (g0.Arcs.length : Int), .slice none 0 0, .slice none 0 0, .slice none 0 0, .slice r36.a m32.length r36.cap, .slice none 0 0, .slice r38.a m34.length r38.cap]) (k := fun b39 => ⟨fun w hm => hm.sub (by repeat (first | exact List.Sublist.refl _ | apply List.Sublist.cons_cons | apply List.Sublist.cons)), ?_⟩))
      refine aw_ev 12 rfl ev_assign ?_
      refine aw_done (hJ1 ((m32, m34), (b39, r36, r38)) _ _ hM ⟨rfl, rfl, rfl, trivial⟩ (fun w hm => hm.reord))
    ·
      refine aw_one 6 rfl (st_make (α := List Int) (e := 22) ([] : List Int) (⟨none, 0, (fun _ => ())⟩ : SR (GoRep.R Int)) hm33 (fun S w => okNil S w) (fun r40 hr40 => ⟨fun w hm => hm.sub (by repeat (first | exact List.Sublist.refl _ | apply List.Sublist.cons_cons | apply List.Sublist.cons)), ?_⟩))
      refine aw_imp (fun w hm => hm.nil2 (e2 := 3) (r := r40) hm33 hr40 (by repeat (first | exact Upd.head | apply Upd.tail))) ?_
      refine aw_ev 10 rfl (ev_build [.int .i64 (g0.Supply.length : Int), .int .i64 (g0.Arcs.length : Int), .slice none 0 0, .slice none 0 0, .slice none 0 0, .slice r40.a m32.length r40.cap, .slice none 0 0, .slice r37.a m34.length r37.cap]) ?_
      refine aw_one 11 rfl (st_box (l := [.int .i64 (g0.Supply.length : Int), .int .i64 (g0.Arcs.length : Int), .slice none 0 0, .slice none 0 0, .slice none 0 0, .slice r40.a m32.length r40.cap, .slice none 0 0, .slice r37.a m34.length r37.cap]) (k := fun b41 => ⟨fun w hm => hm.sub (by repeat (first | exact List.Sublist.refl _ | apply List.Sublist.cons_cons | apply List.Sublist.cons)), ?_⟩))
      refine aw_ev 12 rfl ev_assign ?_
      refine aw_done (hJ1 ((m32, m34), (b41, r40, r37)) _ _ hM ⟨rfl, rfl, rfl, trivial⟩ (fun w hm => hm.reord))
  ·
    clear hM
    intro g hM
    obtain ⟨⟨lr_j1_5, lr_j1_7⟩, ⟨br_j1, rr_j1_5, rr_j1_7⟩⟩ := g
    dsimp only at hM ⊢
    dsimp only [flow_newResidual_k1] at hM
    refine cw_seq fun K3 hK3 => ?_
    refine cw_seq fun K4 hK4 => ?_
    refine cw_region ?_
    refine ow_ev (ev_field_addr 1) ?_
    refine ow_ev (ev_load_own (b := b1)) ?_
    refine ow_have (fun w hm => Kn.len (Kn.imm (α := List Arc) (r := r_g0.2) (x := g0.Arcs) (by repeat (first | exact Has.head | apply Has.tail))) hm) fun hl2 => ?_
    refine ow_ev ev_len ?_
    refine ow_ev ev_move ?_
    refine ow_nil (hK4 _ _ ?_); clear hK4
    refine cw_block ?_
    refine cw_imp (fun w hm => hm.row_nil (α := Int) 3 (fun _ => ())) ?_
    refine cw_imp (fun w hm => hm.row_nil (α := Int) 3 (fun _ => ())) ?_
    refine cw_imp (fun w hm => hm.row_nil (α := Int) 3 (fun _ => ())) ?_
    refine cw_imp (fun w hm => hm.row_nil (α := Int) 3 (fun _ => ())) ?_
    refine cw_loop (γ := Nat × ((List Int) × (List Int) × (List Int) × (List (List Int)) × Nat) × ((SR (GoRep.R Int)) × (SR (GoRep.R Int)) × (SR (GoRep.R Int)) × (SR (GoRep.R (List Int))))) (env := fun (_, (lr_1_2, lr_1_3, lr_1_4, lr_1_5, t27_1), (rr_1_2, rr_1_3, rr_1_4, rr_1_5)) => [(1, .v (.pointer (some ⟨b1, 0, none⟩))), (3, .v (.int .i64 (g0.Supply.length : Int))), (4, .v (.pointer (some ⟨br_j1, 0, none⟩))), (25, .v (.slice r_g0.2.a g0.Arcs.length r_g0.2.cap)), (26, .v (.int .i64 (g0.Arcs.length : Int))), (27, .v (.int .i64 (t27_1 : Int)))]) (mem := fun (_, (lr_1_2, lr_1_3, lr_1_4, lr_1_5, t27_1), (rr_1_2, rr_1_3, rr_1_4, rr_1_5)) => [imm (α := (List Int)) r_g0.1 g0.Supply, imm (α := (List Arc)) r_g0.2 g0.Arcs, own b1 25 [.slice r_g0.1.a g0.Supply.length r_g0.1.cap, .slice r_g0.2.a g0.Arcs.length r_g0.2.cap], trow 3 rr_1_2 lr_1_2, trow 3 rr_1_3 lr_1_3, trow 3 rr_1_4 lr_1_4, rows2 (fun _ => True) 22 3 rr_1_5 lr_1_5, trow 3 (⟨none, 0, (fun _ => ())⟩ : SR (GoRep.R Int)    ) ([] : List Int), trow 3 rr_j1_7 lr_j1_7, own br_j1 91 [.int .i64 (g0.Supply.length : Int), .int .i64 (g0.Arcs.length : Int), .slice rr_1_2.a lr_1_2.length rr_1_2.cap, .slice rr_1_3.a lr_1_3.length rr_1_3.cap, .slice rr_1_4.a lr_1_4.length rr_1_4.cap, .slice rr_1_5.a lr_1_5.length rr_1_5.cap, .slice (⟨none, 0, (fun _ => ())⟩ : SR (GoRep.R Int)    ).a (([] : List Int).length) (⟨none, 0, (fun _ => ())⟩ : SR (GoRep.R Int)    ).cap, .slice rr_j1_7.a lr_j1_7.length rr_j1_7.cap]]) (R := fun g => iter (flow_newResidual_b1 g0 lr_j1_7) g.1 g.2.1 = some y) (μ := fun g => g.1) (FUEL, (([] : List Int), ([] : List Int), ([] : List Int), lr_j1_5, 0), ((⟨none, 0, (fun _ => ())⟩ : SR (GoRep.R Int) ), (⟨none, 0, (fun _ => ())⟩ : SR (GoRep.R Int)  ), (⟨none, 0, (fun _ => ())⟩ : SR (GoRep.R Int)   ), rr_j1_5)) hM ⟨rfl, rfl, rfl, rfl, rfl, rfl, trivial⟩ (fun w hm => hm.reord) ?_
    clear hM
    intro g hM KL1 hL1
    obtain ⟨nn1, ⟨lr_1_2, lr_1_3, lr_1_4, lr_1_5, t27_1⟩, ⟨rr_1_2, rr_1_3, rr_1_4, rr_1_5⟩⟩ := g
    dsimp only at hM ⊢
    obtain ⟨nn1, cont1, rfl, hcont1, hM⟩ := iter_open' hM
    dsimp only [flow_newResidual_b1] at hM
    refine cw_seq fun K5 hK5 => ?_
    refine cw_region ?_
    refine ow_ev ev_lss ?_
    refine ow_nil (hK5 _ _ ?_); clear hK5
    refine cw_seq fun K6 hK6 => ?_
    refine cw_cond rfl (fun hc7 => ?_) (fun hc7 => ?_)
    ·
      replace hM := (ite_t hc7).symm.trans hM
      have hc7d := of_decide_eq_true hc7
      refine cw_skip (hK6 _ _ ?_); clear hK6
      refine cw_seq fun K7 hK7 => ?_
      refine cw_block ?_
      refine cw_seq fun K8 hK8 => ?_
      refine cw_region ?_
      obtain ⟨x8, hx9, hM⟩ := bind_some hM
      refine ow_ev (ev_idx (xs := g0.Arcs) 4 (Kn.imm (α := List Arc) (r := r_g0.2) (x := g0.Arcs) (by repeat (first | exact Has.head | apply Has.tail))) (fun hg => let h := idx_some hx9; ⟨h.1, h.2.1⟩)) ?_
      refine ow_ev (ev_lds (m := 4) (i := (t27_1 : Int)) (xs := g0.Arcs) (y := x8) (l := [.int .i64 x8.From, .int .i64 x8.To, .int .i64 x8.Cap, .int .i64 x8.Cost]) 0 (Kn.imm (α := List Arc) (r := r_g0.2) (x := g0.Arcs) (by repeat (first | exact Has.head | apply Has.tail))) (fun _ => hx9)) ?_
      refine ow_cons (st_alloc rfl (k := fun b10 => ?_))
      refine ow_cons (st_store_all (b := b10) (vs := [.int .i64 x8.From, .int .i64 x8.To, .int .i64 x8.Cap, .int .i64 x8.Cost]) (k := ?_))
      refine ow_nil (hK8 _ _ ?_); clear hK8
      refine cw_region ?_
      refine ow_ev ev_move ?_
      refine ow_ev (ev_field_addr 0) ?_
      refine ow_ev (ev_load_own (b := b10)) ?_
      refine ow_ev (ev_field_addr 1) ?_
      refine ow_ev (ev_load_own (b := b10)) ?_
      refine ow_ev (ev_field_addr 2) ?_
      refine ow_ev (ev_load_own (b := b10)) ?_
      refine ow_ev (ev_field_addr 3) ?_
      refine ow_ev (ev_load_own (b := b10)) ?_
      obtain ⟨y11, hy12, hM⟩ := bind_some hM
      refine ow_cons (st_callS (by repeat (first | exact SelL.nil | (apply SelL.cons; · (repeat (first | exact Sel.head | apply Sel.tail))))) (fun S w hs hP => flow_residual_add_spec _ w br_j1 (Flow_residual.mk (g0.Supply.length : Int) (g0.Arcs.length : Int) lr_1_2 lr_1_3 lr_1_4 lr_1_5 ([] : List Int) lr_j1_7) (rr_1_2, rr_1_3, rr_1_4, rr_1_5, (⟨none, 0, (fun _ => ())⟩ : SR (GoRep.R Int)    ), rr_j1_7) x8.From x8.To x8.Cap x8.Cost y11 hy12 hP )  (fun r13 => ?_))
      dsimp only [List.cons_append, List.nil_append]
      refine ow_nil (hK7 _ _ ?_); clear hK7
      refine cw_region ?_
      refine ow_ev (ev_add (hr := fun _ => by unfold I64; omega)) ?_
      refine ow_ev ev_move ?_
      refine ow_nil (hL1 (nn1, (y11.1, y11.2.1, y11.2.2.1, y11.2.2.2, t27_1 + 1), (r13.1, r13.2.1, r13.2.2.1, r13.2.2.2)) _ _ (eqc hcont1 hM) (Nat.lt_succ_self _) ⟨rfl, rfl, rfl, rfl, rfl, rfl, trivial⟩ (fun w hm => hm.reord))
    ·
      replace hM := (ite_f hc7).symm.trans hM
      refine cw_exit (hK3 _ _ ?_); clear hK3
      dsimp only [flow_newResidual_k2] at hM
      refine cw_seq fun K9 hK9 => ?_
      refine cw_seq fun K10 hK10 => ?_
      refine cw_region ?_
      refine ow_ev (ev_field_addr 0) ?_
      refine ow_ev (ev_load_own (b := b1)) ?_
      refine ow_have (fun w hm => Kn.len (Kn.imm (α := List Int) (r := r_g0.1) (x := g0.Supply) (by repeat (first | exact Has.head | apply Has.tail))) hm) fun hl14 => ?_
      refine ow_ev ev_len ?_
      refine ow_ev ev_move ?_
      refine ow_nil (hK10 _ _ ?_); clear hK10
      refine cw_block ?_
      refine cw_loop (γ := Nat × ((List Int) × (List Int) × (List Int) × (List (List Int)) × (List Int) × Nat) × ((SR (GoRep.R Int)) × (SR (GoRep.R Int)) × (SR (GoRep.R Int)) × (SR (GoRep.R (List Int))) × (SR (GoRep.R Int)))) (env := fun (_, (lr_2_2, lr_2_3, lr_2_4, lr_2_5, lr_2_6, t45_2), (rr_2_2, rr_2_3, rr_2_4, rr_2_5, rr_2_6)) => [(3, .v (.int .i64 (g0.Supply.length : Int))), (4, .v (.pointer (some ⟨br_j1, 0, none⟩))), (43, .v (.slice r_g0.1.a g0.Supply.length r_g0.1.cap)), (44, .v (.int .i64 (g0.Supply.length : Int))), (45, .v (.int .i64 (t45_2 : Int)))]) (mem := fun (_, (lr_2_2, lr_2_3, lr_2_4, lr_2_5, lr_2_6, t45_2), (rr_2_2, rr_2_3, rr_2_4, rr_2_5, rr_2_6)) => [trow 3 rr_2_2 lr_2_2, trow 3 rr_2_3 lr_2_3, trow 3 rr_2_4 lr_2_4, rows2 (fun _ => True) 22 3 rr_2_5 lr_2_5, trow 3 rr_2_6 lr_2_6, trow 3 rr_j1_7 lr_j1_7, own br_j1 91 [.int .i64 (g0.Supply.length : Int), .int .i64 (g0.Arcs.length : Int), .slice rr_2_2.a lr_2_2.length rr_2_2.cap, .slice rr_2_3.a lr_2_3.length rr_2_3.cap, .slice rr_2_4.a lr_2_4.length rr_2_4.cap, .slice rr_2_5.a lr_2_5.length rr_2_5.cap, .slice rr_2_6.a lr_2_6.length rr_2_6.cap, .slice rr_j1_7.a lr_j1_7.length rr_j1_7.cap], imm (α := (List Int)) r_g0.1 g0.Supply]) (R := fun g => iter (flow_newResidual_b2 g0 lr_j1_7) g.1 g.2.1 = some y) (μ := fun g => g.1) (FUEL, (lr_1_2, lr_1_3, lr_1_4, lr_1_5, ([] : List Int), 0), (rr_1_2, rr_1_3, rr_1_4, rr_1_5, (⟨none, 0, (fun _ => ())⟩ : SR (GoRep.R Int)    ))) hM ⟨rfl, rfl, rfl, rfl, rfl, trivial⟩ (fun w hm => hm.reord) ?_
      clear hM
      intro g hM KL2 hL2
      obtain ⟨nn2, ⟨lr_2_2, lr_2_3, lr_2_4, lr_2_5, lr_2_6, t45_2⟩, ⟨rr_2_2, rr_2_3, rr_2_4, rr_2_5, rr_2_6⟩⟩ := g
      dsimp only at hM ⊢
      obtain ⟨nn2, cont2, rfl, hcont2, hM⟩ := iter_open' hM
      dsimp only [flow_newResidual_b2] at hM
      refine cw_seq fun K11 hK11 => ?_
      refine cw_region ?_
      refine ow_ev ev_lss ?_
      refine ow_nil (hK11 _ _ ?_); clear hK11
      refine cw_seq fun K12 hK12 => ?_
      refine cw_cond rfl (fun hc15 => ?_) (fun hc15 => ?_)
      ·
        replace hM := (ite_t hc15).symm.trans hM
        have hc15d := of_decide_eq_true hc15
        refine cw_skip (hK12 _ _ ?_); clear hK12
        refine cw_seq fun K13 hK13 => ?_
        refine cw_block ?_
        refine cw_seq fun K14 hK14 => ?_
        refine cw_region ?_
        refine ow_ev ev_move ?_
        obtain ⟨x16, hx17, hM⟩ := bind_some hM
        refine ow_ev (ev_idx (xs := g0.Supply) 1 (Kn.imm (α := List Int) (r := r_g0.1) (x := g0.Supply) (by repeat (first | exact Has.head | apply Has.tail))) (fun hg => let h := idx_some hx17; ⟨h.1, h.2.1⟩)) ?_
        refine ow_ev (ev_ld (i := (t45_2 : Int)) (xs := g0.Supply) (y := x16) 0 (Kn.imm (α := List Int) (r := r_g0.1) (x := g0.Supply) (by repeat (first | exact Has.head | apply Has.tail))) (fun _ => hx17)) ?_
        refine ow_ev ev_assign ?_
        refine ow_ev ev_assign ?_
        refine ow_nil (hK14 _ _ ?_); clear hK14
        refine cw_seq fun K15 hK15 => ?_
        refine cw_region ?_
        refine ow_ev ev_move ?_
        refine ow_ev ev_move ?_
        refine ow_ev ev_move ?_
        obtain ⟨y18, hy19, hM⟩ := bind_some hM
        refine ow_cons (st_callS (by repeat (first | exact SelL.nil | (apply SelL.cons; · (repeat (first | exact Sel.head | apply Sel.tail))))) (fun S w hs hP => flow_residual_add_spec _ w br_j1 (Flow_residual.mk (g0.Supply.length : Int) (g0.Arcs.length : Int) lr_2_2 lr_2_3 lr_2_4 lr_2_5 lr_2_6 lr_j1_7) (rr_2_2, rr_2_3, rr_2_4, rr_2_5, rr_2_6, rr_j1_7) (t45_2 : Int) (g0.Supply.length : Int) 1099511627776 201326592 y18 hy19 hP )  (fun r20 => ?_))
        dsimp only [List.cons_append, List.nil_append]
        refine ow_nil (hK15 _ _ ?_); clear hK15
        refine cw_seq fun K16 hK16 => ?_
        refine cw_region ?_
        refine ow_ev ev_move ?_
        refine ow_ev ev_move ?_
        refine ow_ev ev_move ?_
        obtain ⟨y21, hy22, hM⟩ := bind_some hM
        refine ow_cons (st_callS (by repeat (first | exact SelL.nil | (apply SelL.cons; · (repeat (first | exact Sel.head | apply Sel.tail))))) (fun S w hs hP => flow_residual_add_spec _ w br_j1 (Flow_residual.mk (g0.Supply.length : Int) (g0.Arcs.length : Int) y18.1 y18.2.1 y18.2.2.1 y18.2.2.2 lr_2_6 lr_j1_7) (r20.1, r20.2.1, r20.2.2.1, r20.2.2.2, rr_2_6, rr_j1_7) (g0.Supply.length : Int) (t45_2 : Int) 1099511627776 201326592 y21 hy22 hP )  (fun r23 => ?_))
        dsimp only [List.cons_append, List.nil_append]
        refine ow_nil (hK16 _ _ ?_); clear hK16
        refine cw_region ?_
        refine ow_ev ev_move ?_
        refine ow_ev ev_move ?_
        refine ow_ev ev_nilcheck ?_
        refine ow_ev (ev_field_addr 6) ?_
        refine ow_ev (ev_load_own (b := br_j1)) ?_
        refine ow_ev ev_move ?_
        refine ow_cons (st_bslice (α := Int) 3 (fun _ => ()) ([x16] : List Int) (OkL.flat (fun _ _ _ _ => trivial)) (fun r24 => ?_))
        obtain ⟨hb25, hM⟩ := chk_some hM
        refine ow_cons (st_append (r := rr_2_6) (r2 := r24) (by intro r'; repeat (first | exact Upd.head | apply Upd.tail)) (Kn.trow (e := 3) (r := r24) (by repeat (first | exact Has.head | apply Has.tail))) (OkL.flat (fun _ _ _ _ => trivial)) (of_decide_eq_true hb25) (fun r26 => ?_))
        refine ow_ev ev_nilcheck ?_
        refine ow_ev (ev_field_addr 6) ?_
        refine ow_cons (st_store_own (b := br_j1) (l' := [.int .i64 (g0.Supply.length : Int), .int .i64 (g0.Arcs.length : Int), .slice r23.1.a y21.1.length r23.1.cap, .slice r23.2.1.a y21.2.1.length r23.2.1.cap, .slice r23.2.2.1.a y21.2.2.1.length r23.2.2.1.cap, .slice r23.2.2.2.a y21.2.2.2.length r23.2.2.2.cap, .slice r26.a ((lr_2_6 ++ ([x16] : List Int)).length) r26.cap, .slice rr_j1_7.a lr_j1_7.length rr_j1_7.cap]) (k := ?_))
        refine ow_nil (hK13 _ _ ?_); clear hK13
        refine cw_region ?_
        refine ow_ev (ev_add (hr := fun _ => by unfold I64; omega)) ?_
        refine ow_ev ev_move ?_
        refine ow_nil (hL2 (nn2, (y21.1, y21.2.1, y21.2.2.1, y21.2.2.2, (lr_2_6 ++ ([x16] : List Int)), t45_2 + 1), (r23.1, r23.2.1, r23.2.2.1, r23.2.2.2, r26)) _ _ (eqc hcont2 hM) (Nat.lt_succ_self _) ⟨rfl, rfl, rfl, rfl, rfl, trivial⟩ (fun w hm => hm.reord))
      ·
        replace hM := (ite_f hc15).symm.trans hM
        refine cw_exit (hK9 _ _ ?_); clear hK9
        dsimp only [flow_newResidual_k3] at hM
        refine cw_seq fun K17 hK17 => ?_
        refine cw_region ?_
        refine ow_ev ev_move ?_
        refine ow_ev ev_move ?_
        refine ow_ev ev_nilcheck ?_
        refine ow_ev (ev_field_addr 6) ?_
        refine ow_ev (ev_load_own (b := br_j1)) ?_
        refine ow_cons (st_bslice (α := Int) 3 (fun _ => ()) ([0] : List Int) (OkL.flat (fun _ _ _ _ => trivial)) (fun r27 => ?_))
        obtain ⟨hb28, hM⟩ := chk_some hM
        refine ow_cons (st_append (r := rr_2_6) (r2 := r27) (by intro r'; repeat (first | exact Upd.head | apply Upd.tail)) (Kn.trow (e := 3) (r := r27) (by repeat (first | exact Has.head | apply Has.tail))) (OkL.flat (fun _ _ _ _ => trivial)) (of_decide_eq_true hb28) (fun r29 => ?_))
        refine ow_ev ev_nilcheck ?_
        refine ow_ev (ev_field_addr 6) ?_
        refine ow_cons (st_store_own (b := br_j1) (l' := [.int .i64 (g0.Supply.length : Int), .int .i64 (g0.Arcs.length : Int), .slice rr_2_2.a lr_2_2.length rr_2_2.cap, .slice rr_2_3.a lr_2_3.length rr_2_3.cap, .slice rr_2_4.a lr_2_4.length rr_2_4.cap, .slice rr_2_5.a lr_2_5.length rr_2_5.cap, .slice r29.a ((lr_2_6 ++ ([0] : List Int)).length) r29.cap, .slice rr_j1_7.a lr_j1_7.length rr_j1_7.cap]) (k := ?_))
        refine ow_nil (hK17 _ _ ?_); clear hK17
        refine cw_seq fun K18 hK18 => ?_
        refine cw_region ?_
        refine ow_ev ev_move ?_
        refine ow_ev ev_assign ?_
        refine ow_nil (hK18 _ _ ?_); clear hK18
        obtain rfl := some_inj hM
        refine cw_ret (kw_retc1 (fun w hm => post_of (br_j1, rr_2_2, rr_2_3, rr_2_4, rr_2_5, r29, rr_j1_7) hm rfl))

def flow_residual_reduced_m (r0 : Flow_residual) (h0 : Int) : Option Int :=
  (idx r0.cost h0).bind fun x1 =>
  (idx r0.to (bitsXor .i64 h0 1)).bind fun x3 =>
  (idx r0.price x3).bind fun x5 =>
  chk (i64b (x1 + x5)) <|
  (idx r0.to h0).bind fun x8 =>
  (idx r0.price x8).bind fun x10 =>
  chk (i64b ((x1 + x5) - x10)) <|
  some ((x1 + x5) - x10)
theorem flow_residual_reduced_spec (S : Soup) (w : World) (b_r0 : Nat) (r0 : Flow_residual) (r_r0 : GoRep.R Flow_residual) (h0 : Int) (y : Int) (hM : flow_residual_reduced_m r0 h0 = some y) (hS : ∀ k, S k → k < w.heap.size) (hb_r0 : S b_r0 ∧ w.heap[b_r0]? = some (.cells [.int .i64 r0.nodes, .int .i64 r0.arcs, .slice r_r0.1.a r0.to.length r_r0.1.cap, .slice r_r0.2.1.a r0.left.length r_r0.2.1.cap, .slice r_r0.2.2.1.a r0.cost.length r_r0.2.2.1.cap, .slice r_r0.2.2.2.1.a r0.from_.length r_r0.2.2.2.1.cap, .slice r_r0.2.2.2.2.1.a r0.excess.length r_r0.2.2.2.2.1.cap, .slice r_r0.2.2.2.2.2.a r0.price.length r_r0.2.2.2.2.2.cap].toArray 91 (0, 0))) (h_r0 : GoRep.ok S w r_r0 r0) :
    Calls Try.prog 76 #[.pointer (some ⟨b_r0, 0, none⟩), .int .i64 h0] w (Ret w (.int .i64 y)) := by
  refine calls_cw (args := [_, _]) Try.func76 rfl ((pre_nil hS).start |>.rboxP hb_r0|>.immP (α := List Int) (r := r_r0.1) (x := r0.to) h_r0.1|>.immP (α := List Int) (r := r_r0.2.1) (x := r0.left) h_r0.2.1|>.immP (α := List Int) (r := r_r0.2.2.1) (x := r0.cost) h_r0.2.2.1|>.immP (α := List (List Int)) (r := r_r0.2.2.2.1) (x := r0.from_) h_r0.2.2.2.1|>.immP (α := List Int) (r := r_r0.2.2.2.2.1) (x := r0.excess) h_r0.2.2.2.2.1|>.immP (α := List Int) (r := r_r0.2.2.2.2.2) (x := r0.price) h_r0.2.2.2.2.2) rfl ?_
  unfold flow_residual_reduced_m at hM
  refine cw_seq fun K1 hK1 => ?_
  refine cw_region ?_
  refine ow_ev ev_assign ?_
  refine ow_nil (hK1 _ _ ?_); clear hK1
  refine cw_seq fun K2 hK2 => ?_
  refine cw_region_any _ (List.Sublist.refl _) ?_
  refine aw_ev 0 rfl ev_move ?_
  refine aw_ev 1 rfl ev_nilcheck ?_
  refine aw_ev 2 rfl (ev_field_addr 4) ?_
  refine aw_ev 3 rfl (ev_rload_own (b := b_r0)) ?_
  refine aw_ev 4 rfl ev_move ?_
  obtain ⟨x1, hx2, hM⟩ := bind_some hM
  refine aw_ev 5 rfl (ev_idx (xs := r0.cost) 1 (Kn.imm (α := List Int) (r := r_r0.2.2.1) (x := r0.cost) (by repeat (first | exact Has.head | apply Has.tail))) (fun hg => let h := idx_some hx2; ⟨h.1, h.2.1⟩)) ?_
  refine aw_ev 6 rfl (ev_ld (i := h0) (xs := r0.cost) (y := x1) 0 (Kn.imm (α := List Int) (r := r_r0.2.2.1) (x := r0.cost) (by repeat (first | exact Has.head | apply Has.tail))) (fun _ => hx2)) ?_
  refine aw_ev 7 rfl ev_move ?_
  refine aw_ev 8 rfl ev_nilcheck ?_
  refine aw_ev 9 rfl (ev_field_addr 7) ?_
  refine aw_ev 10 rfl (ev_rload_own (b := b_r0)) ?_
  refine aw_ev 11 rfl ev_move ?_
  refine aw_ev 12 rfl ev_nilcheck ?_
  refine aw_ev 13 rfl (ev_field_addr 2) ?_
  refine aw_ev 14 rfl (ev_rload_own (b := b_r0)) ?_
  refine aw_ev 15 rfl ev_move ?_
  refine aw_ev 16 rfl ev_xor ?_
  obtain ⟨x3, hx4, hM⟩ := bind_some hM
  refine aw_ev 17 rfl (ev_idx (xs := r0.to) 1 (Kn.imm (α := List Int) (r := r_r0.1) (x := r0.to) (by repeat (first | exact Has.head | apply Has.tail))) (fun hg => let h := idx_some hx4; ⟨h.1, h.2.1⟩)) ?_
  refine aw_ev 18 rfl (ev_ld (i := (bitsXor .i64 h0 1)) (xs := r0.to) (y := x3) 0 (Kn.imm (α := List Int) (r := r_r0.1) (x := r0.to) (by repeat (first | exact Has.head | apply Has.tail))) (fun _ => hx4)) ?_
  obtain ⟨x5, hx6, hM⟩ := bind_some hM
  refine aw_ev 19 rfl (ev_idx (xs := r0.price) 1 (Kn.imm (α := List Int) (r := r_r0.2.2.2.2.2) (x := r0.price) (by repeat (first | exact Has.head | apply Has.tail))) (fun hg => let h := idx_some hx6; ⟨h.1, h.2.1⟩)) ?_
  refine aw_ev 20 rfl (ev_ld (i := x3) (xs := r0.price) (y := x5) 0 (Kn.imm (α := List Int) (r := r_r0.2.2.2.2.2) (x := r0.price) (by repeat (first | exact Has.head | apply Has.tail))) (fun _ => hx6)) ?_
  obtain ⟨hI7, hM⟩ := chk_some hM
  refine aw_ev 21 rfl (ev_add (hr := fun hg => i64b_I64 hI7)) ?_
  refine aw_ev 22 rfl ev_move ?_
  refine aw_ev 23 rfl ev_nilcheck ?_
  refine aw_ev 24 rfl (ev_field_addr 7) ?_
  refine aw_ev 25 rfl (ev_rload_own (b := b_r0)) ?_
  refine aw_ev 26 rfl ev_move ?_
  refine aw_ev 27 rfl ev_nilcheck ?_
  refine aw_ev 28 rfl (ev_field_addr 2) ?_
  refine aw_ev 29 rfl (ev_rload_own (b := b_r0)) ?_
  refine aw_ev 30 rfl ev_move ?_
  obtain ⟨x8, hx9, hM⟩ := bind_some hM
  refine aw_ev 31 rfl (ev_idx (xs := r0.to) 1 (Kn.imm (α := List Int) (r := r_r0.1) (x := r0.to) (by repeat (first | exact Has.head | apply Has.tail))) (fun hg => let h := idx_some hx9; ⟨h.1, h.2.1⟩)) ?_
  refine aw_ev 32 rfl (ev_ld (i := h0) (xs := r0.to) (y := x8) 0 (Kn.imm (α := List Int) (r := r_r0.1) (x := r0.to) (by repeat (first | exact Has.head | apply Has.tail))) (fun _ => hx9)) ?_
  obtain ⟨x10, hx11, hM⟩ := bind_some hM
  refine aw_ev 33 rfl (ev_idx (xs := r0.price) 1 (Kn.imm (α := List Int) (r := r_r0.2.2.2.2.2) (x := r0.price) (by repeat (first | exact Has.head | apply Has.tail))) (fun hg => let h := idx_some hx11; ⟨h.1, h.2.1⟩)) ?_
  refine aw_ev 34 rfl (ev_ld (i := x8) (xs := r0.price) (y := x10) 0 (Kn.imm (α := List Int) (r := r_r0.2.2.2.2.2) (x := r0.price) (by repeat (first | exact Has.head | apply Has.tail))) (fun _ => hx11)) ?_
  obtain ⟨hI12, hM⟩ := chk_some hM
  refine aw_ev 35 rfl (ev_sub (hr := fun hg => i64b_I64 hI12)) ?_
  refine aw_ev 36 rfl ev_assign ?_
  refine aw_done (hK2 _ _ ?_); clear hK2
  obtain rfl := some_inj hM
  refine cw_ret (kw_retc1 (fun w hm => ret_of hm rfl))

def flow_residual_send_m (r0 : Flow_residual) (h0 : Int) (amount0 : Int) : Option ((List Int) × (List Int)) :=
  (idx r0.left h0).bind fun x1 =>
  chk (i64b (x1 - amount0)) <|
  (idx r0.left h0).bind fun x4 =>
  (idx (r0.left.set h0.toNat (x1 - amount0)) (bitsXor .i64 h0 1)).bind fun x6 =>
  chk (i64b (x6 + amount0)) <|
  (idx (r0.left.set h0.toNat (x1 - amount0)) (bitsXor .i64 h0 1)).bind fun x9 =>
  (idx r0.to (bitsXor .i64 h0 1)).bind fun x11 =>
  (idx r0.excess x11).bind fun x13 =>
  chk (i64b (x13 - amount0)) <|
  (idx r0.excess x11).bind fun x16 =>
  (idx r0.to h0).bind fun x18 =>
  (idx (r0.excess.set x11.toNat (x13 - amount0)) x18).bind fun x20 =>
  chk (i64b (x20 + amount0)) <|
  (idx (r0.excess.set x11.toNat (x13 - amount0)) x18).bind fun x23 =>
  some (((r0.left.set h0.toNat (x1 - amount0)).set (bitsXor .i64 h0 1).toNat (x6 + amount0)), ((r0.excess.set x11.toNat (x13 - amount0)).set x18.toNat (x20 + amount0)))
theorem flow_residual_send_spec (S : Soup) (w : World) (b_r0 : Nat) (r0 : Flow_residual) (r_r0 : GoRep.R Flow_residual) (h0 : Int) (amount0 : Int) (y : (List Int) × (List Int)) (hM : flow_residual_send_m r0 h0 amount0 = some y) (hP : Pre S [own b_r0 91 [.int .i64 r0.nodes, .int .i64 r0.arcs, .slice r_r0.1.a r0.to.length r_r0.1.cap, .slice r_r0.2.1.a r0.left.length r_r0.2.1.cap, .slice r_r0.2.2.1.a r0.cost.length r_r0.2.2.1.cap, .slice r_r0.2.2.2.1.a r0.from_.length r_r0.2.2.2.1.cap, .slice r_r0.2.2.2.2.1.a r0.excess.length r_r0.2.2.2.2.1.cap, .slice r_r0.2.2.2.2.2.a r0.price.length r_r0.2.2.2.2.2.cap], trow 3 r_r0.1 r0.to, trow 3 r_r0.2.1 r0.left, trow 3 r_r0.2.2.1 r0.cost, rows2 (fun _ => True) 22 3 r_r0.2.2.2.1 r0.from_, trow 3 r_r0.2.2.2.2.1 r0.excess, trow 3 r_r0.2.2.2.2.2 r0.price] w)  :
    Calls Try.prog 77 #[.pointer (some ⟨b_r0, 0, none⟩), .int .i64 h0, .int .i64 amount0] w (Post (β := (GoRep.R (List Int)) × (GoRep.R (List Int))) S [own b_r0 91 [.int .i64 r0.nodes, .int .i64 r0.arcs, .slice r_r0.1.a r0.to.length r_r0.1.cap, .slice r_r0.2.1.a r0.left.length r_r0.2.1.cap, .slice r_r0.2.2.1.a r0.cost.length r_r0.2.2.1.cap, .slice r_r0.2.2.2.1.a r0.from_.length r_r0.2.2.2.1.cap, .slice r_r0.2.2.2.2.1.a r0.excess.length r_r0.2.2.2.2.1.cap, .slice r_r0.2.2.2.2.2.a r0.price.length r_r0.2.2.2.2.2.cap], trow 3 r_r0.1 r0.to, trow 3 r_r0.2.1 r0.left, trow 3 r_r0.2.2.1 r0.cost, rows2 (fun _ => True) 22 3 r_r0.2.2.2.1 r0.from_, trow 3 r_r0.2.2.2.2.1 r0.excess, trow 3 r_r0.2.2.2.2.2 r0.price] (fun g => .tuple #[]) (fun g => [own b_r0 91 [.int .i64 r0.nodes, .int .i64 r0.arcs, .slice r_r0.1.a r0.to.length r_r0.1.cap, .slice g.1.a y.1.length g.1.cap, .slice r_r0.2.2.1.a r0.cost.length r_r0.2.2.1.cap, .slice r_r0.2.2.2.1.a r0.from_.length r_r0.2.2.2.1.cap, .slice g.2.a y.2.length g.2.cap, .slice r_r0.2.2.2.2.2.a r0.price.length r_r0.2.2.2.2.2.cap], trow 3 r_r0.1 r0.to, trow 3 g.1 y.1, trow 3 r_r0.2.2.1 r0.cost, rows2 (fun _ => True) 22 3 r_r0.2.2.2.1 r0.from_, trow 3 g.2 y.2, trow 3 r_r0.2.2.2.2.2 r0.price]) w) := by
  refine calls_cw (args := [_, _, _]) Try.func77 rfl (hP.start) rfl ?_
  unfold flow_residual_send_m at hM
  refine cw_seq fun K1 hK1 => ?_
  refine cw_region ?_
  refine ow_ev ev_move ?_
  refine ow_ev ev_nilcheck ?_
  refine ow_ev (ev_field_addr 3) ?_
  refine ow_ev (ev_load_own (b := b_r0)) ?_
  refine ow_ev ev_move ?_
  obtain ⟨x1, hx2, hM⟩ := bind_some hM
  refine ow_ev (ev_idx (xs := r0.left) 1 (Kn.trow (e := 3) (r := r_r0.2.1) (by repeat (first | exact Has.head | apply Has.tail))) (fun hg => let h := idx_some hx2; ⟨h.1, h.2.1⟩)) ?_
  refine ow_ev (ev_ld (i := h0) (xs := r0.left) (y := x1) 0 (Kn.trow (e := 3) (r := r_r0.2.1) (by repeat (first | exact Has.head | apply Has.tail))) (fun _ => hx2)) ?_
  refine ow_ev ev_move ?_
  obtain ⟨hI3, hM⟩ := chk_some hM
  refine ow_ev (ev_sub (hr := fun hg => i64b_I64 hI3)) ?_
  obtain ⟨x4, hx5, hM⟩ := bind_some hM
  refine ow_ev (ev_idx (xs := r0.left) 1 (Kn.trow (e := 3) (r := r_r0.2.1) (by repeat (first | exact Has.head | apply Has.tail))) (fun hg => let h := idx_some hx5; ⟨h.1, h.2.1⟩)) ?_
  refine ow_cons (st_set (r := r_r0.2.1) (i := h0) (xs := r0.left) (u := x4) (vs := [.int .i64 (x1 - amount0)]) 0 (x1 - amount0) hx5 rfl (fun _ _ h => h) (by repeat (first | exact Upd.head | apply Upd.tail)) ?_)
  refine ow_nil (hK1 _ _ ?_); clear hK1
  refine cw_seq fun K2 hK2 => ?_
  refine cw_region ?_
  refine ow_ev ev_move ?_
  refine ow_ev ev_nilcheck ?_
  refine ow_ev (ev_field_addr 3) ?_
  refine ow_ev (ev_load_own (b := b_r0)) ?_
  refine ow_ev ev_move ?_
  refine ow_ev ev_xor ?_
  obtain ⟨x6, hx7, hM⟩ := bind_some hM
  refine ow_ev (ev_idx (xs := (r0.left.set h0.toNat (x1 - amount0))) 1 (Kn.trow (e := 3) (r := r_r0.2.1) (by repeat (first | exact Has.head | apply Has.tail))) (fun hg => let h := idx_some hx7; ⟨h.1, h.2.1⟩)) ?_
  refine ow_ev (ev_ld (i := (bitsXor .i64 h0 1)) (xs := (r0.left.set h0.toNat (x1 - amount0))) (y := x6) 0 (Kn.trow (e := 3) (r := r_r0.2.1) (by repeat (first | exact Has.head | apply Has.tail))) (fun _ => hx7)) ?_
  refine ow_ev ev_move ?_
  obtain ⟨hI8, hM⟩ := chk_some hM
  refine ow_ev (ev_add (hr := fun hg => i64b_I64 hI8)) ?_
  obtain ⟨x9, hx10, hM⟩ := bind_some hM
  refine ow_ev (ev_idx (xs := (r0.left.set h0.toNat (x1 - amount0))) 1 (Kn.trow (e := 3) (r := r_r0.2.1) (by repeat (first | exact Has.head | apply Has.tail))) (fun hg => let h := idx_some hx10; ⟨h.1, h.2.1⟩)) ?_
  refine ow_cons (st_set (r := r_r0.2.1) (i := (bitsXor .i64 h0 1)) (xs := (r0.left.set h0.toNat (x1 - amount0))) (u := x9) (vs := [.int .i64 (x6 + amount0)]) 0 (x6 + amount0) hx10 rfl (fun _ _ h => h) (by repeat (first | exact Upd.head | apply Upd.tail)) ?_)
  refine ow_nil (hK2 _ _ ?_); clear hK2
  refine cw_seq fun K3 hK3 => ?_
  refine cw_region_z [own b_r0 91 [.int .i64 r0.nodes, .int .i64 r0.arcs, .slice r_r0.1.a r0.to.length r_r0.1.cap, .slice r_r0.2.1.a r0.left.length r_r0.2.1.cap, .slice r_r0.2.2.1.a r0.cost.length r_r0.2.2.1.cap, .slice r_r0.2.2.2.1.a r0.from_.length r_r0.2.2.2.1.cap, .slice r_r0.2.2.2.2.1.a r0.excess.length r_r0.2.2.2.2.1.cap, .slice r_r0.2.2.2.2.2.a r0.price.length r_r0.2.2.2.2.2.cap], trow 3 r_r0.1 r0.to, trow 3 r_r0.2.1 ((r0.left.set h0.toNat (x1 - amount0)).set (bitsXor .i64 h0 1).toNat (x6 + amount0)), trow 3 r_r0.2.2.1 r0.cost, rows2 (fun _ => True) 22 3 r_r0.2.2.2.1 r0.from_, trow 3 r_r0.2.2.2.2.1 r0.excess, trow 3 r_r0.2.2.2.2.2 r0.price] 17 ?_
  refine az_ev 0 rfl ev_move ?_
  refine az_ev 1 rfl ev_nilcheck ?_
  refine az_ev 2 rfl (ev_field_addr 6) ?_
  refine az_ev 3 rfl (ev_load_own (b := b_r0)) ?_
  refine az_ev 4 rfl ev_move ?_
  refine az_ev 5 rfl ev_nilcheck ?_
  refine az_ev 6 rfl (ev_field_addr 2) ?_
  refine az_ev 7 rfl (ev_load_own (b := b_r0)) ?_
  refine az_ev 8 rfl ev_move ?_
  refine az_ev 9 rfl ev_xor ?_
  obtain ⟨x11, hx12, hM⟩ := bind_some hM
  refine az_ev 10 rfl (ev_idx (xs := r0.to) 1 (Kn.trow (e := 3) (r := r_r0.1) (by repeat (first | exact Has.head | apply Has.tail))) (fun hg => let h := idx_some hx12; ⟨h.1, h.2.1⟩)) ?_
  refine az_ev 11 rfl (ev_ld (i := (bitsXor .i64 h0 1)) (xs := r0.to) (y := x11) 0 (Kn.trow (e := 3) (r := r_r0.1) (by repeat (first | exact Has.head | apply Has.tail))) (fun _ => hx12)) ?_
  obtain ⟨x13, hx14, hM⟩ := bind_some hM
  refine az_ev 12 rfl (ev_idx (xs := r0.excess) 1 (Kn.trow (e := 3) (r := r_r0.2.2.2.2.1) (by repeat (first | exact Has.head | apply Has.tail))) (fun hg => let h := idx_some hx14; ⟨h.1, h.2.1⟩)) ?_
  refine az_ev 13 rfl (ev_ld (i := x11) (xs := r0.excess) (y := x13) 0 (Kn.trow (e := 3) (r := r_r0.2.2.2.2.1) (by repeat (first | exact Has.head | apply Has.tail))) (fun _ => hx14)) ?_
  refine az_ev 14 rfl ev_move ?_
  obtain ⟨hI15, hM⟩ := chk_some hM
  refine az_ev 15 rfl (ev_sub (hr := fun hg => i64b_I64 hI15)) ?_
  obtain ⟨x16, hx17, hM⟩ := bind_some hM
  refine az_ev 16 rfl (ev_idx (xs := r0.excess) 1 (Kn.trow (e := 3) (r := r_r0.2.2.2.2.1) (by repeat (first | exact Has.head | apply Has.tail))) (fun hg => let h := idx_some hx17; ⟨h.1, h.2.1⟩)) ?_
  refine az_last rfl (st_set (r := r_r0.2.2.2.2.1) (i := x11) (xs := r0.excess) (u := x16) (vs := [.int .i64 (x13 - amount0)]) 0 (x13 - amount0) hx17 rfl (fun _ _ h => h) (by repeat (first | exact Upd.head | apply Upd.tail)) ?_)
  refine az_done (hK3 _ _ ?_); clear hK3
  refine cw_region_z [own b_r0 91 [.int .i64 r0.nodes, .int .i64 r0.arcs, .slice r_r0.1.a r0.to.length r_r0.1.cap, .slice r_r0.2.1.a r0.left.length r_r0.2.1.cap, .slice r_r0.2.2.1.a r0.cost.length r_r0.2.2.1.cap, .slice r_r0.2.2.2.1.a r0.from_.length r_r0.2.2.2.1.cap, .slice r_r0.2.2.2.2.1.a r0.excess.length r_r0.2.2.2.2.1.cap, .slice r_r0.2.2.2.2.2.a r0.price.length r_r0.2.2.2.2.2.cap], trow 3 r_r0.1 r0.to, trow 3 r_r0.2.1 ((r0.left.set h0.toNat (x1 - amount0)).set (bitsXor .i64 h0 1).toNat (x6 + amount0)), trow 3 r_r0.2.2.1 r0.cost, rows2 (fun _ => True) 22 3 r_r0.2.2.2.1 r0.from_, trow 3 r_r0.2.2.2.2.1 (r0.excess.set x11.toNat (x13 - amount0)), trow 3 r_r0.2.2.2.2.2 r0.price] 16 ?_
  refine az_ev 0 rfl ev_move ?_
  refine az_ev 1 rfl ev_nilcheck ?_
  refine az_ev 2 rfl (ev_field_addr 6) ?_
  refine az_ev 3 rfl (ev_load_own (b := b_r0)) ?_
  refine az_ev 4 rfl ev_move ?_
  refine az_ev 5 rfl ev_nilcheck ?_
  refine az_ev 6 rfl (ev_field_addr 2) ?_
  refine az_ev 7 rfl (ev_load_own (b := b_r0)) ?_
  refine az_ev 8 rfl ev_move ?_
  obtain ⟨x18, hx19, hM⟩ := bind_some hM
  refine az_ev 9 rfl (ev_idx (xs := r0.to) 1 (Kn.trow (e := 3) (r := r_r0.1) (by repeat (first | exact Has.head | apply Has.tail))) (fun hg => let h := idx_some hx19; ⟨h.1, h.2.1⟩)) ?_
  refine az_ev 10 rfl (ev_ld (i := h0) (xs := r0.to) (y := x18) 0 (Kn.trow (e := 3) (r := r_r0.1) (by repeat (first | exact Has.head | apply Has.tail))) (fun _ => hx19)) ?_
  obtain ⟨x20, hx21, hM⟩ := bind_some hM
  refine az_ev 11 rfl (ev_idx (xs := (r0.excess.set x11.toNat (x13 - amount0))) 1 (Kn.trow (e := 3) (r := r_r0.2.2.2.2.1) (by repeat (first | exact Has.head | apply Has.tail))) (fun hg => let h := idx_some hx21; ⟨h.1, h.2.1⟩)) ?_
  refine az_ev 12 rfl (ev_ld (i := x18) (xs := (r0.excess.set x11.toNat (x13 - amount0))) (y := x20) 0 (Kn.trow (e := 3) (r := r_r0.2.2.2.2.1) (by repeat (first | exact Has.head | apply Has.tail))) (fun _ => hx21)) ?_
  refine az_ev 13 rfl ev_move ?_
  obtain ⟨hI22, hM⟩ := chk_some hM
  refine az_ev 14 rfl (ev_add (hr := fun hg => i64b_I64 hI22)) ?_
  obtain ⟨x23, hx24, hM⟩ := bind_some hM
  refine az_ev 15 rfl (ev_idx (xs := (r0.excess.set x11.toNat (x13 - amount0))) 1 (Kn.trow (e := 3) (r := r_r0.2.2.2.2.1) (by repeat (first | exact Has.head | apply Has.tail))) (fun hg => let h := idx_some hx24; ⟨h.1, h.2.1⟩)) ?_
  refine az_last rfl (st_set (r := r_r0.2.2.2.2.1) (i := x18) (xs := (r0.excess.set x11.toNat (x13 - amount0))) (u := x23) (vs := [.int .i64 (x20 + amount0)]) 0 (x20 + amount0) hx24 rfl (fun _ _ h => h) (by repeat (first | exact Upd.head | apply Upd.tail)) ?_)
  obtain rfl := some_inj hM
  refine az_done (kw_end0 rfl (fun w hm => by simp only [List.length_set]; exact post_of (r_r0.2.1, r_r0.2.2.2.2.1) hm rfl))

def flow_residual_cheapest_k6 (v_j1 : Int) (lway_j1 : List Int) (lb_r0_5_7 : List Int) : Unit → Option (Int × (List Int) × (List Int)) := fun _ =>
  some (v_j1, lway_j1, lb_r0_5_7)
def flow_residual_cheapest_b5 (ldistance_j1 : List Int) (v_j1 : Int) (lway_j1 : List Int) (cont5 : ((List Int) × Nat) → Option (Int × (List Int) × (List Int))) : ((List Int) × Nat) → Option (Int × (List Int) × (List Int)) := fun (lb_r0_5_7, t146_5) =>
  if decide ((t146_5 : Int) < (ldistance_j1.length : Int)) then
    ((idx ldistance_j1 (t146_5 : Int)).bind fun x3 =>
    (idx lb_r0_5_7 (t146_5 : Int)).bind fun x5 =>
    (idx ldistance_j1 v_j1).bind fun x7 =>
    chk (i64b (x5 + (if x7 < x3 then x7 else x3))) <|
    (idx lb_r0_5_7 (t146_5 : Int)).bind fun x10 =>
    cont5 ((lb_r0_5_7.set (t146_5 : Int).toNat (x5 + (if x7 < x3 then x7 else x3))), t146_5 + 1))
  else
    (flow_residual_cheapest_k6 v_j1 lway_j1 lb_r0_5_7 ())
def flow_residual_cheapest_k1 (r0 : Flow_residual) : ((List Int) × (List Int) × Int) → Option (Int × (List Int) × (List Int)) := fun (ldistance_j1, lway_j1, v_j1) =>
  iter (flow_residual_cheapest_b5 ldistance_j1 v_j1 lway_j1) FUEL (r0.price, 0)
def flow_residual_cheapest_k4 (cont3 : (Int × Nat) → Option (Int × (List Int) × (List Int))) (t47_3 : Nat) : Int → Option (Int × (List Int) × (List Int)) := fun v_j4 =>
  cont3 (v_j4, t47_3 + 1)
def flow_residual_cheapest_k5 (cont4 : ((List Int) × (List Int) × Nat) → Option (Int × (List Int) × (List Int))) (t92_4 : Nat) : ((List Int) × (List Int)) → Option (Int × (List Int) × (List Int)) := fun (ldistance_j5, lway_j5) =>
  cont4 (ldistance_j5, lway_j5, t92_4 + 1)
def flow_residual_cheapest_b4 (x43 : List Int) (r0 : Flow_residual) (v_3 : Int) (unit0 : Int) (ldone_2 : List Bool) (cont2 : ((List Int) × (List Int) × (List Bool)) → Option (Int × (List Int) × (List Int))) (cont4 : ((List Int) × (List Int) × Nat) → Option (Int × (List Int) × (List Int))) : ((List Int) × (List Int) × Nat) → Option (Int × (List Int) × (List Int)) := fun (ldistance_4, lway_4, t92_4) =>
  if decide ((t92_4 : Int) < (x43.length : Int)) then
    ((idx x43 (t92_4 : Int)).bind fun x47 =>
    (idx r0.to x47).bind fun x49 =>
    (idx ldistance_4 v_3).bind fun x51 =>
    (flow_residual_reduced_m r0 x47).bind fun y53 =>
    chk (i64b (x51 + y53)) <|
    (idx r0.left x47).bind fun x56 =>
    (whn (decide (unit0 ≤ x56)) default (idx (ldone_2.set v_3.toNat true) x49)).bind fun x58 =>
    (whn (decide (unit0 ≤ x56) && (!x58)) default (idx ldistance_4 x49)).bind fun x60 =>
    if ((decide (unit0 ≤ x56) && (!x58)) && decide ((x51 + y53) < x60)) then
      ((idx ldistance_4 x49).bind fun x63 =>
      (idx lway_4 x49).bind fun x65 =>
      flow_residual_cheapest_k5 cont4 t92_4 ((ldistance_4.set x49.toNat (x51 + y53)), (lway_4.set x49.toNat x47)))
    else
      (flow_residual_cheapest_k5 cont4 t92_4 (ldistance_4, lway_4)))
  else
    (cont2 (ldistance_4, lway_4, (ldone_2.set v_3.toNat true)))
def flow_residual_cheapest_k3 (r0 : Flow_residual) (v_3 : Int) (unit0 : Int) (ldistance_2 : List Int) (lway_2 : List Int) (ldone_2 : List Bool) (cont2 : ((List Int) × (List Int) × (List Bool)) → Option (Int × (List Int) × (List Int))) : Unit → Option (Int × (List Int) × (List Int)) := fun _ =>
  (idx r0.excess v_3).bind fun x37 =>
  chk (i64b (-unit0)) <|
  if decide (x37 ≤ (-unit0)) then
    (flow_residual_cheapest_k1 r0 (ldistance_2, lway_2, v_3))
  else
    ((idx ldone_2 v_3).bind fun x41 =>
    (idx r0.from_ v_3).bind fun x43 =>
    iter (flow_residual_cheapest_b4 x43 r0 v_3 unit0 ldone_2 cont2) FUEL (ldistance_2, lway_2, 0))
def flow_residual_cheapest_b3 (ldistance_2 : List Int) (ldone_2 : List Bool) (r0 : Flow_residual) (unit0 : Int) (lway_2 : List Int) (cont2 : ((List Int) × (List Int) × (List Bool)) → Option (Int × (List Int) × (List Int))) (cont3 : (Int × Nat) → Option (Int × (List Int) × (List Int))) : (Int × Nat) → Option (Int × (List Int) × (List Int)) := fun (v_3, t47_3) =>
  if decide ((t47_3 : Int) < (ldistance_2.length : Int)) then
    ((idx ldistance_2 (t47_3 : Int)).bind fun x30 =>
    (idx ldone_2 (t47_3 : Int)).bind fun x32 =>
    (whn ((!x32) && !(decide (v_3 < 0))) default (idx ldistance_2 v_3)).bind fun x34 =>
    if ((!x32) && (decide (v_3 < 0) || decide (x30 < x34))) then
      (flow_residual_cheapest_k4 cont3 t47_3 (t47_3 : Int))
    else
      (flow_residual_cheapest_k4 cont3 t47_3 v_3))
  else
    (flow_residual_cheapest_k3 r0 v_3 unit0 ldistance_2 lway_2 ldone_2 cont2 ())
def flow_residual_cheapest_b2 (r0 : Flow_residual) (unit0 : Int) (cont2 : ((List Int) × (List Int) × (List Bool)) → Option (Int × (List Int) × (List Int))) : ((List Int) × (List Int) × (List Bool)) → Option (Int × (List Int) × (List Int)) := fun (ldistance_2, lway_2, ldone_2) =>
  iter (flow_residual_cheapest_b3 ldistance_2 ldone_2 r0 unit0 lway_2 cont2) FUEL ((-1), 0)
def flow_residual_cheapest_k2 (ldistance_1 : List Int) (source0 : Int) (r0 : Flow_residual) (unit0 : Int) (m16 : List Int) (m19 : List Bool) : Unit → Option (Int × (List Int) × (List Int)) := fun _ =>
  (idx ldistance_1 source0).bind fun x26 =>
  iter (flow_residual_cheapest_b2 r0 unit0) FUEL ((ldistance_1.set source0.toNat 0), m16, m19)
def flow_residual_cheapest_b1 (m13 : List Int) (source0 : Int) (r0 : Flow_residual) (unit0 : Int) (m16 : List Int) (m19 : List Bool) (cont1 : ((List Int) × Nat) → Option (Int × (List Int) × (List Int))) : ((List Int) × Nat) → Option (Int × (List Int) × (List Int)) := fun (ldistance_1, t35_1) =>
  if decide ((t35_1 : Int) < (m13.length : Int)) then
    ((idx ldistance_1 (t35_1 : Int)).bind fun x24 =>
    cont1 ((ldistance_1.set (t35_1 : Int).toNat 1152921504606846976), t35_1 + 1))
  else
    (flow_residual_cheapest_k2 ldistance_1 source0 r0 unit0 m16 m19 ())
def flow_residual_cheapest_m (r0 : Flow_residual) (source0 : Int) (unit0 : Int) : Option (Int × (List Int) × (List Int)) :=
  chk (i64b (r0.nodes + 1)) <|
  (mk (α := Int) 0 (r0.nodes + 1)).bind fun m13 =>
  (mk (α := Int) 0 (r0.nodes + 1)).bind fun m16 =>
  (mk (α := Bool) false (r0.nodes + 1)).bind fun m19 =>
  iter (flow_residual_cheapest_b1 m13 source0 r0 unit0 m16 m19) FUEL (m13, 0)
theorem flow_residual_cheapest_spec (S : Soup) (w : World) (b_r0 : Nat) (r0 : Flow_residual) (r_r0 : GoRep.R Flow_residual) (source0 : Int) (unit0 : Int) (y : Int × (List Int) × (List Int)) (hM : flow_residual_cheapest_m r0 source0 unit0 = some y) (hP : Pre S [own b_r0 91 [.int .i64 r0.nodes, .int .i64 r0.arcs, .slice r_r0.1.a r0.to.length r_r0.1.cap, .slice r_r0.2.1.a r0.left.length r_r0.2.1.cap, .slice r_r0.2.2.1.a r0.cost.length r_r0.2.2.1.cap, .slice r_r0.2.2.2.1.a r0.from_.length r_r0.2.2.2.1.cap, .slice r_r0.2.2.2.2.1.a r0.excess.length r_r0.2.2.2.2.1.cap, .slice r_r0.2.2.2.2.2.a r0.price.length r_r0.2.2.2.2.2.cap], trow 3 r_r0.1 r0.to, trow 3 r_r0.2.1 r0.left, trow 3 r_r0.2.2.1 r0.cost, rows2 (fun _ => True) 22 3 r_r0.2.2.2.1 r0.from_, trow 3 r_r0.2.2.2.2.1 r0.excess, trow 3 r_r0.2.2.2.2.2 r0.price] w)  :
    Calls Try.prog 82 #[.pointer (some ⟨b_r0, 0, none⟩), .int .i64 source0, .int .i64 unit0] w (Post (β := (GoRep.R (List Int)) × (GoRep.R (List Int))) S [own b_r0 91 [.int .i64 r0.nodes, .int .i64 r0.arcs, .slice r_r0.1.a r0.to.length r_r0.1.cap, .slice r_r0.2.1.a r0.left.length r_r0.2.1.cap, .slice r_r0.2.2.1.a r0.cost.length r_r0.2.2.1.cap, .slice r_r0.2.2.2.1.a r0.from_.length r_r0.2.2.2.1.cap, .slice r_r0.2.2.2.2.1.a r0.excess.length r_r0.2.2.2.2.1.cap, .slice r_r0.2.2.2.2.2.a r0.price.length r_r0.2.2.2.2.2.cap], trow 3 r_r0.1 r0.to, trow 3 r_r0.2.1 r0.left, trow 3 r_r0.2.2.1 r0.cost, rows2 (fun _ => True) 22 3 r_r0.2.2.2.1 r0.from_, trow 3 r_r0.2.2.2.2.1 r0.excess, trow 3 r_r0.2.2.2.2.2 r0.price] (fun g => .tuple #[.int .i64 y.1, .slice g.1.a y.2.1.length g.1.cap]) (fun g => [trow 3 g.1 y.2.1, own b_r0 91 [.int .i64 r0.nodes, .int .i64 r0.arcs, .slice r_r0.1.a r0.to.length r_r0.1.cap, .slice r_r0.2.1.a r0.left.length r_r0.2.1.cap, .slice r_r0.2.2.1.a r0.cost.length r_r0.2.2.1.cap, .slice r_r0.2.2.2.1.a r0.from_.length r_r0.2.2.2.1.cap, .slice r_r0.2.2.2.2.1.a r0.excess.length r_r0.2.2.2.2.1.cap, .slice g.2.a y.2.2.length g.2.cap], trow 3 r_r0.1 r0.to, trow 3 r_r0.2.1 r0.left, trow 3 r_r0.2.2.1 r0.cost, rows2 (fun _ => True) 22 3 r_r0.2.2.2.1 r0.from_, trow 3 r_r0.2.2.2.2.1 r0.excess, trow 3 g.2 y.2.2]) w) := by
  refine calls_cw (args := [_, _, _]) Try.func82 rfl (hP.start) rfl ?_
  unfold flow_residual_cheapest_m at hM
  refine cw_seq fun K1 hK1 => ?_
  refine cw_region ?_
  refine ow_ev ev_assign ?_
  refine ow_ev ev_assign ?_
  refine ow_nil (hK1 _ _ ?_); clear hK1
  refine cw_scope 0 (γ := ((List Int) × (List Int) × Int) × ((SR (GoRep.R Int)) × (SR (GoRep.R Int)))) (fun ((ldistance_j1, lway_j1, v_j1), (rdistance_j1, rway_j1)) => [(0, .v (.pointer (some ⟨b_r0, 0, none⟩))), (9, .v (.slice rdistance_j1.a ldistance_j1.length rdistance_j1.cap)), (10, .v (.slice rway_j1.a lway_j1.length rway_j1.cap)), (13, .v (.int .i64 v_j1))]) (fun ((ldistance_j1, lway_j1, v_j1), (rdistance_j1, rway_j1)) => [trow 3 r_r0.1 r0.to, trow 3 r_r0.2.1 r0.left, trow 3 r_r0.2.2.1 r0.cost, rows2 (fun _ => True) 22 3 r_r0.2.2.2.1 r0.from_, trow 3 r_r0.2.2.2.2.1 r0.excess, trow 3 r_r0.2.2.2.2.2 r0.price, own b_r0 91 [.int .i64 r0.nodes, .int .i64 r0.arcs, .slice r_r0.1.a r0.to.length r_r0.1.cap, .slice r_r0.2.1.a r0.left.length r_r0.2.1.cap, .slice r_r0.2.2.1.a r0.cost.length r_r0.2.2.1.cap, .slice r_r0.2.2.2.1.a r0.from_.length r_r0.2.2.2.1.cap, .slice r_r0.2.2.2.2.1.a r0.excess.length r_r0.2.2.2.2.1.cap, .slice r_r0.2.2.2.2.2.a r0.price.length r_r0.2.2.2.2.2.cap], trow 3 rdistance_j1 ldistance_j1, trow 3 rway_j1 lway_j1]) (fun g => flow_residual_cheapest_k1 r0 g.1 = some y) rfl ?_ ?_
  · intro KG1 hG1
    refine cw_seq fun K10 hK10 => ?_
    refine cw_region ?_
    refine ow_ev ev_move ?_
    refine ow_ev ev_nilcheck ?_
    refine ow_ev (ev_field_addr 0) ?_
    refine ow_ev (ev_load_own (b := b_r0)) ?_
    obtain ⟨hI12, hM⟩ := chk_some hM
    refine ow_ev (ev_add (hr := fun hg => i64b_I64 hI12)) ?_
    refine ow_ev ev_assign ?_
    refine ow_nil (hK10 _ _ ?_); clear hK10
    refine cw_seq fun K11 hK11 => ?_
    refine cw_region ?_
    refine ow_ev ev_move ?_
    obtain ⟨m13, hm14, hM⟩ := bind_some hM
    refine ow_cons (st_make (α := Int) (e := 3) 0 () hm14 (fun _ _ => trivial) (fun r15 hr15 => ?_))
    refine ow_ev ev_assign ?_
    refine ow_nil (hK11 _ _ ?_); clear hK11
    refine cw_seq fun K12 hK12 => ?_
    refine cw_region ?_
    refine ow_ev ev_move ?_
    obtain ⟨m16, hm17, hM⟩ := bind_some hM
    refine ow_cons (st_make (α := Int) (e := 3) 0 () hm17 (fun _ _ => trivial) (fun r18 hr18 => ?_))
    refine ow_ev ev_assign ?_
    refine ow_nil (hK12 _ _ ?_); clear hK12
    refine cw_seq fun K13 hK13 => ?_
    refine cw_region ?_
    refine ow_ev ev_move ?_
    obtain ⟨m19, hm20, hM⟩ := bind_some hM
    refine ow_cons (st_make (α := Bool) (e := 4) false () hm20 (fun _ _ => trivial) (fun r21 hr21 => ?_))
    refine ow_ev ev_assign ?_
    refine ow_nil (hK13 _ _ ?_); clear hK13
    refine cw_seq fun K14 hK14 => ?_
    refine cw_seq fun K15 hK15 => ?_
    refine cw_region ?_
    refine ow_ev ev_move ?_
    refine ow_have (fun w hm => Kn.len (Kn.trow (e := 3) (r := r15) (by repeat (first | exact Has.head | apply Has.tail))) hm) fun hl22 => ?_
    refine ow_ev ev_len ?_
    refine ow_ev ev_move ?_
    refine ow_nil (hK15 _ _ ?_); clear hK15
    refine cw_block ?_
    refine cw_loop (γ := Nat × ((List Int) × Nat) × Unit) (env := fun (_, (ldistance_1, t35_1), _) => [(0, .v (.pointer (some ⟨b_r0, 0, none⟩))), (1, .v (.int .i64 source0)), (2, .v (.int .i64 unit0)), (9, .v (.slice r15.a ldistance_1.length r15.cap)), (10, .v (.slice r18.a m16.length r18.cap)), (11, .v (.slice r21.a m19.length r21.cap)), (34, .v (.int .i64 (m13.length : Int))), (35, .v (.int .i64 (t35_1 : Int)))]) (mem := fun (_, (ldistance_1, t35_1), _) => [trow 3 r_r0.1 r0.to, trow 3 r_r0.2.1 r0.left, trow 3 r_r0.2.2.1 r0.cost, rows2 (fun _ => True) 22 3 r_r0.2.2.2.1 r0.from_, trow 3 r_r0.2.2.2.2.1 r0.excess, trow 3 r_r0.2.2.2.2.2 r0.price, own b_r0 91 [.int .i64 r0.nodes, .int .i64 r0.arcs, .slice r_r0.1.a r0.to.length r_r0.1.cap, .slice r_r0.2.1.a r0.left.length r_r0.2.1.cap, .slice r_r0.2.2.1.a r0.cost.length r_r0.2.2.1.cap, .slice r_r0.2.2.2.1.a r0.from_.length r_r0.2.2.2.1.cap, .slice r_r0.2.2.2.2.1.a r0.excess.length r_r0.2.2.2.2.1.cap, .slice r_r0.2.2.2.2.2.a r0.price.length r_r0.2.2.2.2.2.cap], trow 3 r15 ldistance_1, trow 3 r18 m16, trow 4 r21 m19]) (R := fun g => iter (flow_residual_cheapest_b1 m13 source0 r0 unit0 m16 m19) g.1 g.2.1 = some y) (μ := fun g => g.1) (FUEL, (m13, 0), ()) hM ⟨rfl, rfl, rfl, rfl, rfl, rfl, rfl, rfl, trivial⟩ (fun w hm => hm.reord) ?_
    clear hM
    intro g hM KL1 hL1
    obtain ⟨nn1, ⟨ldistance_1, t35_1⟩, ⟨⟩⟩ := g
    dsimp only at hM ⊢
    obtain ⟨nn1, cont1, rfl, hcont1, hM⟩ := iter_open' hM
    dsimp only [flow_residual_cheapest_b1] at hM
    refine cw_seq fun K16 hK16 => ?_
    refine cw_region ?_
    refine ow_ev ev_lss ?_
    refine ow_nil (hK16 _ _ ?_); clear hK16
    refine cw_seq fun K17 hK17 => ?_
    refine cw_cond rfl (fun hc23 => ?_) (fun hc23 => ?_)
    ·
      replace hM := (ite_t hc23).symm.trans hM
      have hc23d := of_decide_eq_true hc23
      refine cw_skip (hK17 _ _ ?_); clear hK17
      refine cw_seq fun K18 hK18 => ?_
      refine cw_block ?_
      refine cw_seq fun K19 hK19 => ?_
      refine cw_region ?_
      refine ow_ev ev_move ?_
      refine ow_ev ev_assign ?_
      refine ow_nil (hK19 _ _ ?_); clear hK19
      refine cw_region ?_
      refine ow_ev ev_move ?_
      refine ow_ev ev_move ?_
      obtain ⟨x24, hx25, hM⟩ := bind_some hM
      refine ow_ev (ev_idx (xs := ldistance_1) 1 (Kn.trow (e := 3) (r := r15) (by repeat (first | exact Has.head | apply Has.tail))) (fun hg => let h := idx_some hx25; ⟨h.1, h.2.1⟩)) ?_
      refine ow_cons (st_set (r := r15) (i := (t35_1 : Int)) (xs := ldistance_1) (u := x24) (vs := [.int .i64 1152921504606846976]) 0 1152921504606846976 hx25 rfl (fun _ _ h => h) (by repeat (first | exact Upd.head | apply Upd.tail)) ?_)
      refine ow_nil (hK18 _ _ ?_); clear hK18
      refine cw_region ?_
      refine ow_ev (ev_add (hr := fun _ => by unfold I64; omega)) ?_
      refine ow_ev ev_move ?_
      refine ow_nil (hL1 (nn1, ((ldistance_1.set (t35_1 : Int).toNat 1152921504606846976), t35_1 + 1), ()) _ _ (eqc hcont1 hM) (Nat.lt_succ_self _) ⟨rfl, rfl, rfl, (by simp only [List.length_set]; rfl), rfl, rfl, rfl, rfl, trivial⟩ (fun w hm => hm.reord))
    ·
      replace hM := (ite_f hc23).symm.trans hM
      refine cw_exit (hK14 _ _ ?_); clear hK14
      dsimp only [flow_residual_cheapest_k2] at hM
      refine cw_seq fun K20 hK20 => ?_
      refine cw_region ?_
      refine ow_ev ev_move ?_
      refine ow_ev ev_move ?_
      obtain ⟨x26, hx27, hM⟩ := bind_some hM
      refine ow_ev (ev_idx (xs := ldistance_1) 1 (Kn.trow (e := 3) (r := r15) (by repeat (first | exact Has.head | apply Has.tail))) (fun hg => let h := idx_some hx27; ⟨h.1, h.2.1⟩)) ?_
      refine ow_cons (st_set (r := r15) (i := source0) (xs := ldistance_1) (u := x26) (vs := [.int .i64 0]) 0 0 hx27 rfl (fun _ _ h => h) (by repeat (first | exact Upd.head | apply Upd.tail)) ?_)
      refine ow_nil (hK20 _ _ ?_); clear hK20
      refine cw_seq fun K21 hK21 => ?_
      refine cw_region ?_
      refine ow_ev ev_assign ?_
      refine ow_nil (hK21 _ _ ?_); clear hK21
      refine cw_seq fun K22 hK22 => ?_
      refine cw_block ?_
      refine cw_loop (γ := Nat × ((List Int) × (List Int) × (List Bool)) × Unit) (env := fun (_, (ldistance_2, lway_2, ldone_2), _) => [(0, .v (.pointer (some ⟨b_r0, 0, none⟩))), (2, .v (.int .i64 unit0)), (9, .v (.slice r15.a ldistance_2.length r15.cap)), (10, .v (.slice r18.a lway_2.length r18.cap)), (11, .v (.slice r21.a ldone_2.length r21.cap))]) (mem := fun (_, (ldistance_2, lway_2, ldone_2), _) => [trow 3 r_r0.1 r0.to, trow 3 r_r0.2.1 r0.left, trow 3 r_r0.2.2.1 r0.cost, rows2 (fun _ => True) 22 3 r_r0.2.2.2.1 r0.from_, trow 3 r_r0.2.2.2.2.1 r0.excess, trow 3 r_r0.2.2.2.2.2 r0.price, own b_r0 91 [.int .i64 r0.nodes, .int .i64 r0.arcs, .slice r_r0.1.a r0.to.length r_r0.1.cap, .slice r_r0.2.1.a r0.left.length r_r0.2.1.cap, .slice r_r0.2.2.1.a r0.cost.length r_r0.2.2.1.cap, .slice r_r0.2.2.2.1.a r0.from_.length r_r0.2.2.2.1.cap, .slice r_r0.2.2.2.2.1.a r0.excess.length r_r0.2.2.2.2.1.cap, .slice r_r0.2.2.2.2.2.a r0.price.length r_r0.2.2.2.2.2.cap], trow 3 r15 ldistance_2, trow 3 r18 lway_2, trow 4 r21 ldone_2]) (R := fun g => iter (flow_residual_cheapest_b2 r0 unit0) g.1 g.2.1 = some y) (μ := fun g => g.1) (FUEL, ((ldistance_1.set source0.toNat 0), m16, m19), ()) hM ⟨rfl, rfl, (by simp only [List.length_set]; rfl), rfl, rfl, trivial⟩ (fun w hm => hm.reord) ?_
      clear hM
      intro g hM KL2 hL2
      obtain ⟨nn2, ⟨ldistance_2, lway_2, ldone_2⟩, ⟨⟩⟩ := g
      dsimp only at hM ⊢
      obtain ⟨nn2, cont2, rfl, hcont2, hM⟩ := iter_open' hM
      dsimp only [flow_residual_cheapest_b2] at hM
      refine cw_block ?_
      refine cw_seq fun K23 hK23 => ?_
      refine cw_region ?_
      refine ow_ev ev_assign ?_
      refine ow_nil (hK23 _ _ ?_); clear hK23
      refine cw_seq fun K24 hK24 => ?_
      refine cw_seq fun K25 hK25 => ?_
      refine cw_region ?_
      refine ow_ev ev_move ?_
      refine ow_have (fun w hm => Kn.len (Kn.trow (e := 3) (r := r15) (by repeat (first | exact Has.head | apply Has.tail))) hm) fun hl28 => ?_
      refine ow_ev ev_len ?_
      refine ow_ev ev_move ?_
      refine ow_nil (hK25 _ _ ?_); clear hK25
      refine cw_block ?_
      refine cw_loop (γ := Nat × (Int × Nat) × Unit) (env := fun (_, (v_3, t47_3), _) => [(0, .v (.pointer (some ⟨b_r0, 0, none⟩))), (2, .v (.int .i64 unit0)), (9, .v (.slice r15.a ldistance_2.length r15.cap)), (10, .v (.slice r18.a lway_2.length r18.cap)), (11, .v (.slice r21.a ldone_2.length r21.cap)), (13, .v (.int .i64 v_3)), (45, .v (.slice r15.a ldistance_2.length r15.cap)), (46, .v (.int .i64 (ldistance_2.length : Int))), (47, .v (.int .i64 (t47_3 : Int)))]) (mem := fun (_, (v_3, t47_3), _) => [trow 3 r_r0.1 r0.to, trow 3 r_r0.2.1 r0.left, trow 3 r_r0.2.2.1 r0.cost, rows2 (fun _ => True) 22 3 r_r0.2.2.2.1 r0.from_, trow 3 r_r0.2.2.2.2.1 r0.excess, trow 3 r_r0.2.2.2.2.2 r0.price, own b_r0 91 [.int .i64 r0.nodes, .int .i64 r0.arcs, .slice r_r0.1.a r0.to.length r_r0.1.cap, .slice r_r0.2.1.a r0.left.length r_r0.2.1.cap, .slice r_r0.2.2.1.a r0.cost.length r_r0.2.2.1.cap, .slice r_r0.2.2.2.1.a r0.from_.length r_r0.2.2.2.1.cap, .slice r_r0.2.2.2.2.1.a r0.excess.length r_r0.2.2.2.2.1.cap, .slice r_r0.2.2.2.2.2.a r0.price.length r_r0.2.2.2.2.2.cap], trow 3 r15 ldistance_2, trow 3 r18 lway_2, trow 4 r21 ldone_2]) (R := fun g => iter (flow_residual_cheapest_b3 ldistance_2 ldone_2 r0 unit0 lway_2 cont2) g.1 g.2.1 = some y) (μ := fun g => g.1) (FUEL, ((-1), 0), ()) hM ⟨rfl, rfl, rfl, rfl, rfl, rfl, rfl, rfl, rfl, trivial⟩ (fun w hm => hm.reord) ?_
      clear hM
      intro g hM KL3 hL3
      obtain ⟨nn3, ⟨v_3, t47_3⟩, ⟨⟩⟩ := g
      dsimp only at hM ⊢
      obtain ⟨nn3, cont3, rfl, hcont3, hM⟩ := iter_open' hM
      dsimp only [flow_residual_cheapest_b3] at hM
      refine cw_seq fun K26 hK26 => ?_
      refine cw_region ?_
      refine ow_ev ev_lss ?_
      refine ow_nil (hK26 _ _ ?_); clear hK26
      refine cw_seq fun K27 hK27 => ?_
      refine cw_cond rfl (fun hc29 => ?_) (fun hc29 => ?_)
      ·
        replace hM := (ite_t hc29).symm.trans hM
        have hc29d := of_decide_eq_true hc29
        refine cw_skip (hK27 _ _ ?_); clear hK27
        refine cw_cut (γ := Int × Unit) (env := fun (v_j4, _) => [(0, .v (.pointer (some ⟨b_r0, 0, none⟩))), (2, .v (.int .i64 unit0)), (9, .v (.slice r15.a ldistance_2.length r15.cap)), (10, .v (.slice r18.a lway_2.length r18.cap)), (11, .v (.slice r21.a ldone_2.length r21.cap)), (13, .v (.int .i64 v_j4)), (45, .v (.slice r15.a ldistance_2.length r15.cap)), (46, .v (.int .i64 (ldistance_2.length : Int))), (47, .v (.int .i64 (t47_3 : Int)))]) (mem := fun (v_j4, _) => [trow 3 r_r0.1 r0.to, trow 3 r_r0.2.1 r0.left, trow 3 r_r0.2.2.1 r0.cost, rows2 (fun _ => True) 22 3 r_r0.2.2.2.1 r0.from_, trow 3 r_r0.2.2.2.2.1 r0.excess, trow 3 r_r0.2.2.2.2.2 r0.price, own b_r0 91 [.int .i64 r0.nodes, .int .i64 r0.arcs, .slice r_r0.1.a r0.to.length r_r0.1.cap, .slice r_r0.2.1.a r0.left.length r_r0.2.1.cap, .slice r_r0.2.2.1.a r0.cost.length r_r0.2.2.1.cap, .slice r_r0.2.2.2.1.a r0.from_.length r_r0.2.2.2.1.cap, .slice r_r0.2.2.2.2.1.a r0.excess.length r_r0.2.2.2.2.1.cap, .slice r_r0.2.2.2.2.2.a r0.price.length r_r0.2.2.2.2.2.cap], trow 3 r15 ldistance_2, trow 3 r18 lway_2, trow 4 r21 ldone_2]) (R := fun g => flow_residual_cheapest_k4 cont3 t47_3 g.1 = some y) ?_ ?_
        · intro KJ4 hJ4
          refine cw_block ?_
          refine cw_seq fun K28 hK28 => ?_
          refine cw_region ?_
          refine ow_ev ev_move ?_
          obtain ⟨x30, hx31, hM⟩ := bind_some hM
          refine ow_ev (ev_idx (xs := ldistance_2) 1 (Kn.trow (e := 3) (r := r15) (by repeat (first | exact Has.head | apply Has.tail))) (fun hg => let h := idx_some hx31; ⟨h.1, h.2.1⟩)) ?_
          refine ow_ev (ev_ld (i := (t47_3 : Int)) (xs := ldistance_2) (y := x30) 0 (Kn.trow (e := 3) (r := r15) (by repeat (first | exact Has.head | apply Has.tail))) (fun _ => hx31)) ?_
          refine ow_ev ev_assign ?_
          refine ow_ev ev_assign ?_
          refine ow_nil (hK28 _ _ ?_); clear hK28
          refine cw_seq fun K29 hK29 => ?_
          refine cw_region ?_
          refine ow_ev ev_move ?_
          refine ow_ev ev_move ?_
          obtain ⟨x32, hx33, hM⟩ := bind_some hM
          refine ow_ev (ev_idx (xs := ldone_2) 1 (Kn.trow (e := 4) (r := r21) (by repeat (first | exact Has.head | apply Has.tail))) (fun hg => let h := idx_some hx33; ⟨h.1, h.2.1⟩)) ?_
          refine ow_ev (ev_ld (i := (t47_3 : Int)) (xs := ldone_2) (y := x32) 0 (Kn.trow (e := 4) (r := r21) (by repeat (first | exact Has.head | apply Has.tail))) (fun _ => hx33)) ?_
          refine ow_ev ev_not ?_
          refine ow_ev ev_move ?_
          refine ow_evg rfl ev_move ?_
          refine ow_evg rfl ev_lss ?_
          refine ow_evg rfl ev_move ?_
          refine ow_evg rfl ev_move ?_
          refine ow_evg rfl ev_move ?_
          refine ow_evg rfl ev_move ?_
          obtain ⟨x34, hx35, hM⟩ := bind_some hM
          refine ow_evg rfl (ev_idx (xs := ldistance_2) 1 (Kn.trow (e := 3) (r := r15) (by repeat (first | exact Has.head | apply Has.tail))) (fun hg => let h := idx_some (whn_some hx35 hg); ⟨h.1, h.2.1⟩)) ?_
          refine ow_evg rfl (ev_ld (i := v_3) (xs := ldistance_2) (y := x34) 0 (Kn.trow (e := 3) (r := r15) (by repeat (first | exact Has.head | apply Has.tail))) (fun hg => whn_some hx35 hg)) ?_
          refine ow_evg rfl ev_lss ?_
          refine ow_evg rfl ev_or ?_
          refine ow_ev ev_and ?_
          refine ow_nil (hK29 _ _ ?_); clear hK29
          refine cw_cond rfl (fun hc36 => ?_) (fun hc36 => ?_)
          ·
            replace hM := (ite_t hc36).symm.trans hM
            refine cw_region ?_
            refine ow_ev ev_move ?_
            refine ow_ev ev_assign ?_
            refine ow_nil (hJ4 ((t47_3 : Int), ()) _ _ hM ⟨rfl, rfl, rfl, rfl, rfl, rfl, rfl, rfl, rfl, trivial⟩ (fun w hm => hm.reord))
          ·
            replace hM := (ite_f hc36).symm.trans hM
            refine cw_skip (hJ4 (v_3, ()) _ _ hM ⟨rfl, rfl, rfl, rfl, rfl, rfl, rfl, rfl, rfl, trivial⟩ (fun w hm => hm.reord))
        ·
          clear hM
          intro g hM
          obtain ⟨v_j4, ⟨⟩⟩ := g
          dsimp only at hM ⊢
          dsimp only [flow_residual_cheapest_k4] at hM
          refine cw_region ?_
          refine ow_ev (ev_add (hr := fun _ => by unfold I64; omega)) ?_
          refine ow_ev ev_move ?_
          refine ow_nil (hL3 (nn3, (v_j4, t47_3 + 1), ()) _ _ (eqc hcont3 hM) (Nat.lt_succ_self _) ⟨rfl, rfl, rfl, rfl, rfl, rfl, rfl, rfl, rfl, trivial⟩ (fun w hm => hm.reord))
      ·
        replace hM := (ite_f hc29).symm.trans hM
        refine cw_exit (hK24 _ _ ?_); clear hK24
        dsimp only [flow_residual_cheapest_k3] at hM
        refine cw_seq fun K30 hK30 => ?_
        refine cw_seq fun K31 hK31 => ?_
        refine cw_region ?_
        refine ow_ev ev_move ?_
        refine ow_ev ev_nilcheck ?_
        refine ow_ev (ev_field_addr 6) ?_
        refine ow_ev (ev_load_own (b := b_r0)) ?_
        refine ow_ev ev_move ?_
        obtain ⟨x37, hx38, hM⟩ := bind_some hM
        refine ow_ev (ev_idx (xs := r0.excess) 1 (Kn.trow (e := 3) (r := r_r0.2.2.2.2.1) (by repeat (first | exact Has.head | apply Has.tail))) (fun hg => let h := idx_some hx38; ⟨h.1, h.2.1⟩)) ?_
        refine ow_ev (ev_ld (i := v_3) (xs := r0.excess) (y := x37) 0 (Kn.trow (e := 3) (r := r_r0.2.2.2.2.1) (by repeat (first | exact Has.head | apply Has.tail))) (fun _ => hx38)) ?_
        refine ow_ev ev_move ?_
        obtain ⟨hI39, hM⟩ := chk_some hM
        refine ow_ev (ev_neg (hr := fun hg => i64b_I64 hI39)) ?_
        refine ow_ev ev_leq ?_
        refine ow_nil (hK31 _ _ ?_); clear hK31
        refine cw_cond rfl (fun hc40 => ?_) (fun hc40 => ?_)
        ·
          replace hM := (ite_t hc40).symm.trans hM
          refine cw_goto (cw_gotoJ (hG1 ((ldistance_2, lway_2, v_3), (r15, r18)) _ _ hM ⟨rfl, rfl, rfl, rfl, trivial⟩ (fun w hm => hm.reord)))
        ·
          replace hM := (ite_f hc40).symm.trans hM
          refine cw_skip (hK30 _ _ ?_); clear hK30
          refine cw_seq fun K32 hK32 => ?_
          refine cw_region ?_
          refine ow_ev ev_move ?_
          refine ow_ev ev_move ?_
          obtain ⟨x41, hx42, hM⟩ := bind_some hM
          refine ow_ev (ev_idx (xs := ldone_2) 1 (Kn.trow (e := 4) (r := r21) (by repeat (first | exact Has.head | apply Has.tail))) (fun hg => let h := idx_some hx42; ⟨h.1, h.2.1⟩)) ?_
          refine ow_cons (st_set (r := r21) (i := v_3) (xs := ldone_2) (u := x41) (vs := [.bool true]) 0 true hx42 rfl (fun _ _ h => h) (by repeat (first | exact Upd.head | apply Upd.tail)) ?_)
          refine ow_nil (hK32 _ _ ?_); clear hK32
          refine cw_seq fun K33 hK33 => ?_
          refine cw_region ?_
          refine ow_ev ev_move ?_
          refine ow_ev ev_nilcheck ?_
          refine ow_ev (ev_field_addr 5) ?_
          refine ow_ev (ev_load_own (b := b_r0)) ?_
          refine ow_ev ev_move ?_
          obtain ⟨x43, hx44, hM⟩ := bind_some hM
          refine ow_ev (ev_idx2 (r := r_r0.2.2.2.1) (xs := r0.from_) (by repeat (first | exact Has.head | apply Has.tail)) (fun hg => let h := idx_some hx44; ⟨h.1, h.2.1⟩)) ?_
          refine ow_ev (ev_ld2 (r := r_r0.2.2.2.1) (xs := r0.from_) (i := v_3) (by repeat (first | exact Has.head | apply Has.tail)) (fun _ => hx44)) ?_
          refine ow_have (fun w hm => Kn.len (Kn.row2 (e := 22) (e2 := 3) (r := r_r0.2.2.2.1) (xs := r0.from_) (by repeat (first | exact Has.head | apply Has.tail)) hx44) hm) fun hl45 => ?_
          refine ow_ev ev_len ?_
          refine ow_ev ev_move ?_
          refine ow_nil (hK33 _ _ ?_); clear hK33
          refine cw_block ?_
          refine cw_loop (γ := Nat × ((List Int) × (List Int) × Nat) × Unit) (env := fun (_, (ldistance_4, lway_4, t92_4), _) => [(0, .v (.pointer (some ⟨b_r0, 0, none⟩))), (2, .v (.int .i64 unit0)), (9, .v (.slice r15.a ldistance_4.length r15.cap)), (10, .v (.slice r18.a lway_4.length r18.cap)), (11, .v (.slice r21.a ((ldone_2.set v_3.toNat true).length) r21.cap)), (13, .v (.int .i64 v_3)), (90, .v (.slice (r_r0.2.2.2.1.es v_3.toNat).a x43.length (r_r0.2.2.2.1.es v_3.toNat).cap)), (91, .v (.int .i64 (x43.length : Int))), (92, .v (.int .i64 (t92_4 : Int)))]) (mem := fun (_, (ldistance_4, lway_4, t92_4), _) => [trow 3 r_r0.1 r0.to, trow 3 r_r0.2.1 r0.left, trow 3 r_r0.2.2.1 r0.cost, rows2 (fun _ => True) 22 3 r_r0.2.2.2.1 r0.from_, trow 3 r_r0.2.2.2.2.1 r0.excess, trow 3 r_r0.2.2.2.2.2 r0.price, own b_r0 91 [.int .i64 r0.nodes, .int .i64 r0.arcs, .slice r_r0.1.a r0.to.length r_r0.1.cap, .slice r_r0.2.1.a r0.left.length r_r0.2.1.cap, .slice r_r0.2.2.1.a r0.cost.length r_r0.2.2.1.cap, .slice r_r0.2.2.2.1.a r0.from_.length r_r0.2.2.2.1.cap, .slice r_r0.2.2.2.2.1.a r0.excess.length r_r0.2.2.2.2.1.cap, .slice r_r0.2.2.2.2.2.a r0.price.length r_r0.2.2.2.2.2.cap], trow 3 r15 ldistance_4, trow 3 r18 lway_4, trow 4 r21 (ldone_2.set v_3.toNat true)]) (R := fun g => iter (flow_residual_cheapest_b4 x43 r0 v_3 unit0 ldone_2 cont2) g.1 g.2.1 = some y) (μ := fun g => g.1) (FUEL, (ldistance_2, lway_2, 0), ()) hM ⟨rfl, rfl, rfl, rfl, (by simp only [List.length_set]; rfl), rfl, rfl, rfl, rfl, trivial⟩ (fun w hm => hm.reord) ?_
          clear hM
          intro g hM KL4 hL4
          obtain ⟨nn4, ⟨ldistance_4, lway_4, t92_4⟩, ⟨⟩⟩ := g
          dsimp only at hM ⊢
          obtain ⟨nn4, cont4, rfl, hcont4, hM⟩ := iter_open' hM
          dsimp only [flow_residual_cheapest_b4] at hM
          refine cw_seq fun K34 hK34 => ?_
          refine cw_region ?_
          refine ow_ev ev_lss ?_
          refine ow_nil (hK34 _ _ ?_); clear hK34
          refine cw_seq fun K35 hK35 => ?_
          refine cw_cond rfl (fun hc46 => ?_) (fun hc46 => ?_)
          ·
            replace hM := (ite_t hc46).symm.trans hM
            have hc46d := of_decide_eq_true hc46
            refine cw_skip (hK35 _ _ ?_); clear hK35
            refine cw_cut (γ := ((List Int) × (List Int)) × Unit) (env := fun ((ldistance_j5, lway_j5), _) => [(0, .v (.pointer (some ⟨b_r0, 0, none⟩))), (2, .v (.int .i64 unit0)), (9, .v (.slice r15.a ldistance_j5.length r15.cap)), (10, .v (.slice r18.a lway_j5.length r18.cap)), (11, .v (.slice r21.a ((ldone_2.set v_3.toNat true).length) r21.cap)), (13, .v (.int .i64 v_3)), (90, .v (.slice (r_r0.2.2.2.1.es v_3.toNat).a x43.length (r_r0.2.2.2.1.es v_3.toNat).cap)), (91, .v (.int .i64 (x43.length : Int))), (92, .v (.int .i64 (t92_4 : Int)))]) (mem := fun ((ldistance_j5, lway_j5), _) => [trow 3 r_r0.1 r0.to, trow 3 r_r0.2.1 r0.left, trow 3 r_r0.2.2.1 r0.cost, rows2 (fun _ => True) 22 3 r_r0.2.2.2.1 r0.from_, trow 3 r_r0.2.2.2.2.1 r0.excess, trow 3 r_r0.2.2.2.2.2 r0.price, own b_r0 91 [.int .i64 r0.nodes, .int .i64 r0.arcs, .slice r_r0.1.a r0.to.length r_r0.1.cap, .slice r_r0.2.1.a r0.left.length r_r0.2.1.cap, .slice r_r0.2.2.1.a r0.cost.length r_r0.2.2.1.cap, .slice r_r0.2.2.2.1.a r0.from_.length r_r0.2.2.2.1.cap, .slice r_r0.2.2.2.2.1.a r0.excess.length r_r0.2.2.2.2.1.cap, .slice r_r0.2.2.2.2.2.a r0.price.length r_r0.2.2.2.2.2.cap], trow 3 r15 ldistance_j5, trow 3 r18 lway_j5, trow 4 r21 (ldone_2.set v_3.toNat true)]) (R := fun g => flow_residual_cheapest_k5 cont4 t92_4 g.1 = some y) ?_ ?_
            · intro KJ5 hJ5
              refine cw_block ?_
              refine cw_seq fun K36 hK36 => ?_
              refine cw_region ?_
              obtain ⟨x47, hx48, hM⟩ := bind_some hM
              refine ow_ev (ev_idx (xs := x43) 1 (Kn.row2 (e := 22) (e2 := 3) (r := r_r0.2.2.2.1) (xs := r0.from_) (by repeat (first | exact Has.head | apply Has.tail)) hx44) (fun hg => let h := idx_some hx48; ⟨h.1, h.2.1⟩)) ?_
              refine ow_ev (ev_ld (i := (t92_4 : Int)) (xs := x43) (y := x47) 0 (Kn.row2 (e := 22) (e2 := 3) (r := r_r0.2.2.2.1) (xs := r0.from_) (by repeat (first | exact Has.head | apply Has.tail)) hx44) (fun _ => hx48)) ?_
              refine ow_ev ev_assign ?_
              refine ow_nil (hK36 _ _ ?_); clear hK36
              refine cw_seq fun K37 hK37 => ?_
              refine cw_region ?_
              refine ow_ev ev_move ?_
              refine ow_ev ev_nilcheck ?_
              refine ow_ev (ev_field_addr 2) ?_
              refine ow_ev (ev_load_own (b := b_r0)) ?_
              refine ow_ev ev_move ?_
              obtain ⟨x49, hx50, hM⟩ := bind_some hM
              refine ow_ev (ev_idx (xs := r0.to) 1 (Kn.trow (e := 3) (r := r_r0.1) (by repeat (first | exact Has.head | apply Has.tail))) (fun hg => let h := idx_some hx50; ⟨h.1, h.2.1⟩)) ?_
              refine ow_ev (ev_ld (i := x47) (xs := r0.to) (y := x49) 0 (Kn.trow (e := 3) (r := r_r0.1) (by repeat (first | exact Has.head | apply Has.tail))) (fun _ => hx50)) ?_
              refine ow_ev ev_assign ?_
              refine ow_nil (hK37 _ _ ?_); clear hK37
              refine cw_seq fun K38 hK38 => ?_
              refine cw_region_any _ (List.Sublist.refl _) ?_
              refine aw_ev 0 rfl ev_move ?_
              refine aw_ev 1 rfl ev_move ?_
              obtain ⟨x51, hx52, hM⟩ := bind_some hM
              refine aw_ev 2 rfl (ev_idx (xs := ldistance_4) 1 (Kn.trow (e := 3) (r := r15) (by repeat (first | exact Has.head | apply Has.tail))) (fun hg => let h := idx_some hx52; ⟨h.1, h.2.1⟩)) ?_
              refine aw_ev 3 rfl (ev_ld (i := v_3) (xs := ldistance_4) (y := x51) 0 (Kn.trow (e := 3) (r := r15) (by repeat (first | exact Has.head | apply Has.tail))) (fun _ => hx52)) ?_
              refine aw_ev 4 rfl ev_move ?_
              refine aw_ev 5 rfl ev_move ?_
              obtain ⟨y53, hy54, hM⟩ := bind_some hM
              refine aw_one 6 rfl (st_callv (fun w hm => let ⟨S, hs⟩ := hm; flow_residual_reduced_spec _ w b_r0 r0 r_r0 x47 y53 hy54 (lend_lt hs) (own_lend (by repeat (first | exact Has.head | apply Has.tail)) hs) ⟨(Kn.lend (Kn.trow (e := 3) (r := r_r0.1) (by repeat (first | exact Has.head | apply Has.tail))) hs), (Kn.lend (Kn.trow (e := 3) (r := r_r0.2.1) (by repeat (first | exact Has.head | apply Has.tail))) hs), (Kn.lend (Kn.trow (e := 3) (r := r_r0.2.2.1) (by repeat (first | exact Has.head | apply Has.tail))) hs), (Kn.lend (Kn.trow2 (e := 22) (r := r_r0.2.2.2.1) (by repeat (first | exact Has.head | apply Has.tail))) hs), (Kn.lend (Kn.trow (e := 3) (r := r_r0.2.2.2.2.1) (by repeat (first | exact Has.head | apply Has.tail))) hs), (Kn.lend (Kn.trow (e := 3) (r := r_r0.2.2.2.2.2) (by repeat (first | exact Has.head | apply Has.tail))) hs)⟩) ⟨fun w hm => hm.sub (by repeat (first | exact List.Sublist.refl _ | apply List.Sublist.cons_cons | apply List.Sublist.cons)), ?_⟩)
              obtain ⟨hI55, hM⟩ := chk_some hM
              refine aw_ev 7 rfl (ev_add (hr := fun hg => i64b_I64 hI55)) ?_
              refine aw_ev 8 rfl ev_assign ?_
              refine aw_done (hK38 _ _ ?_); clear hK38
              refine cw_seq fun K39 hK39 => ?_
              refine cw_region ?_
              refine ow_ev ev_move ?_
              refine ow_ev ev_nilcheck ?_
              refine ow_ev (ev_field_addr 3) ?_
              refine ow_ev (ev_load_own (b := b_r0)) ?_
              refine ow_ev ev_move ?_
              obtain ⟨x56, hx57, hM⟩ := bind_some hM
              refine ow_ev (ev_idx (xs := r0.left) 1 (Kn.trow (e := 3) (r := r_r0.2.1) (by repeat (first | exact Has.head | apply Has.tail))) (fun hg => let h := idx_some hx57; ⟨h.1, h.2.1⟩)) ?_
              refine ow_ev (ev_ld (i := x47) (xs := r0.left) (y := x56) 0 (Kn.trow (e := 3) (r := r_r0.2.1) (by repeat (first | exact Has.head | apply Has.tail))) (fun _ => hx57)) ?_
              refine ow_ev ev_move ?_
              refine ow_ev ev_geq ?_
              refine ow_ev ev_move ?_
              refine ow_evg rfl ev_move ?_
              refine ow_evg rfl ev_move ?_
              obtain ⟨x58, hx59, hM⟩ := bind_some hM
              refine ow_evg rfl (ev_idx (xs := (ldone_2.set v_3.toNat true)) 1 (Kn.trow (e := 4) (r := r21) (by repeat (first | exact Has.head | apply Has.tail))) (fun hg => let h := idx_some (whn_some hx59 hg); ⟨h.1, h.2.1⟩)) ?_
              refine ow_evg rfl (ev_ld (i := x49) (xs := (ldone_2.set v_3.toNat true)) (y := x58) 0 (Kn.trow (e := 4) (r := r21) (by repeat (first | exact Has.head | apply Has.tail))) (fun hg => whn_some hx59 hg)) ?_
              refine ow_evg rfl ev_not ?_
              refine ow_ev ev_and ?_
              refine ow_ev ev_move ?_
              refine ow_evg rfl ev_move ?_
              refine ow_evg rfl ev_move ?_
              refine ow_evg rfl ev_move ?_
              obtain ⟨x60, hx61, hM⟩ := bind_some hM
              refine ow_evg rfl (ev_idx (xs := ldistance_4) 1 (Kn.trow (e := 3) (r := r15) (by repeat (first | exact Has.head | apply Has.tail))) (fun hg => let h := idx_some (whn_some hx61 hg); ⟨h.1, h.2.1⟩)) ?_
              refine ow_evg rfl (ev_ld (i := x49) (xs := ldistance_4) (y := x60) 0 (Kn.trow (e := 3) (r := r15) (by repeat (first | exact Has.head | apply Has.tail))) (fun hg => whn_some hx61 hg)) ?_
              refine ow_evg rfl ev_lss ?_
              refine ow_ev ev_and ?_
              refine ow_nil (hK39 _ _ ?_); clear hK39
              refine cw_cond rfl (fun hc62 => ?_) (fun hc62 => ?_)
              ·
                replace hM := (ite_t hc62).symm.trans hM
                refine cw_seq fun K40 hK40 => ?_
                refine cw_region ?_
                refine ow_ev ev_move ?_
                refine ow_ev ev_move ?_
                refine ow_ev ev_move ?_
                obtain ⟨x63, hx64, hM⟩ := bind_some hM
                refine ow_ev (ev_idx (xs := ldistance_4) 1 (Kn.trow (e := 3) (r := r15) (by repeat (first | exact Has.head | apply Has.tail))) (fun hg => let h := idx_some hx64; ⟨h.1, h.2.1⟩)) ?_
                refine ow_cons (st_set (r := r15) (i := x49) (xs := ldistance_4) (u := x63) (vs := [.int .i64 (x51 + y53)]) 0 (x51 + y53) hx64 rfl (fun _ _ h => h) (by repeat (first | exact Upd.head | apply Upd.tail)) ?_)
                refine ow_nil (hK40 _ _ ?_); clear hK40
                refine cw_region ?_
                refine ow_ev ev_move ?_
                refine ow_ev ev_move ?_
                refine ow_ev ev_move ?_
                obtain ⟨x65, hx66, hM⟩ := bind_some hM
                refine ow_ev (ev_idx (xs := lway_4) 1 (Kn.trow (e := 3) (r := r18) (by repeat (first | exact Has.head | apply Has.tail))) (fun hg => let h := idx_some hx66; ⟨h.1, h.2.1⟩)) ?_
                refine ow_cons (st_set (r := r18) (i := x49) (xs := lway_4) (u := x65) (vs := [.int .i64 x47]) 0 x47 hx66 rfl (fun _ _ h => h) (by repeat (first | exact Upd.head | apply Upd.tail)) ?_)
                refine ow_nil (hJ5 (((ldistance_4.set x49.toNat (x51 + y53)), (lway_4.set x49.toNat x47)), ()) _ _ hM ⟨rfl, rfl, (by simp only [List.length_set]; rfl), (by simp only [List.length_set]; rfl), rfl, rfl, rfl, rfl, rfl, trivial⟩ (fun w hm => hm.reord))
              ·
                replace hM := (ite_f hc62).symm.trans hM
                refine cw_skip (hJ5 ((ldistance_4, lway_4), ()) _ _ hM ⟨rfl, rfl, rfl, rfl, rfl, rfl, rfl, rfl, rfl, trivial⟩ (fun w hm => hm.reord))
            ·
              clear hM
              intro g hM
              obtain ⟨⟨ldistance_j5, lway_j5⟩, ⟨⟩⟩ := g
              dsimp only at hM ⊢
              dsimp only [flow_residual_cheapest_k5] at hM
              refine cw_region ?_
              refine ow_ev (ev_add (hr := fun _ => by unfold I64; omega)) ?_
              refine ow_ev ev_move ?_
              refine ow_nil (hL4 (nn4, (ldistance_j5, lway_j5, t92_4 + 1), ()) _ _ (eqc hcont4 hM) (Nat.lt_succ_self _) ⟨rfl, rfl, rfl, rfl, rfl, rfl, rfl, rfl, rfl, trivial⟩ (fun w hm => hm.reord))
          ·
            replace hM := (ite_f hc46).symm.trans hM
            refine cw_exit (hL2 (nn2, (ldistance_4, lway_4, (ldone_2.set v_3.toNat true)), ()) _ _ (eqc hcont2 hM) (Nat.lt_succ_self _) ⟨rfl, rfl, rfl, rfl, rfl, trivial⟩ (fun w hm => hm.reord))
  ·
    clear hM
    intro g hM
    obtain ⟨⟨ldistance_j1, lway_j1, v_j1⟩, ⟨rdistance_j1, rway_j1⟩⟩ := g
    dsimp only at hM ⊢
    dsimp only [flow_residual_cheapest_k1] at hM
    refine cw_seq fun K2 hK2 => ?_
    refine cw_skip (hK2 _ _ ?_); clear hK2
    refine cw_seq fun K3 hK3 => ?_
    refine cw_seq fun K4 hK4 => ?_
    refine cw_region ?_
    refine ow_ev ev_move ?_
    refine ow_have (fun w hm => Kn.len (Kn.trow (e := 3) (r := rdistance_j1) (by repeat (first | exact Has.head | apply Has.tail))) hm) fun hl1 => ?_
    refine ow_ev ev_len ?_
    refine ow_ev ev_move ?_
    refine ow_nil (hK4 _ _ ?_); clear hK4
    refine cw_block ?_
    refine cw_loop (γ := Nat × ((List Int) × Nat) × Unit) (env := fun (_, (lb_r0_5_7, t146_5), _) => [(0, .v (.pointer (some ⟨b_r0, 0, none⟩))), (9, .v (.slice rdistance_j1.a ldistance_j1.length rdistance_j1.cap)), (10, .v (.slice rway_j1.a lway_j1.length rway_j1.cap)), (13, .v (.int .i64 v_j1)), (144, .v (.slice rdistance_j1.a ldistance_j1.length rdistance_j1.cap)), (145, .v (.int .i64 (ldistance_j1.length : Int))), (146, .v (.int .i64 (t146_5 : Int)))]) (mem := fun (_, (lb_r0_5_7, t146_5), _) => [trow 3 r_r0.1 r0.to, trow 3 r_r0.2.1 r0.left, trow 3 r_r0.2.2.1 r0.cost, rows2 (fun _ => True) 22 3 r_r0.2.2.2.1 r0.from_, trow 3 r_r0.2.2.2.2.1 r0.excess, trow 3 r_r0.2.2.2.2.2 lb_r0_5_7, own b_r0 91 [.int .i64 r0.nodes, .int .i64 r0.arcs, .slice r_r0.1.a r0.to.length r_r0.1.cap, .slice r_r0.2.1.a r0.left.length r_r0.2.1.cap, .slice r_r0.2.2.1.a r0.cost.length r_r0.2.2.1.cap, .slice r_r0.2.2.2.1.a r0.from_.length r_r0.2.2.2.1.cap, .slice r_r0.2.2.2.2.1.a r0.excess.length r_r0.2.2.2.2.1.cap, .slice r_r0.2.2.2.2.2.a lb_r0_5_7.length r_r0.2.2.2.2.2.cap], trow 3 rdistance_j1 ldistance_j1, trow 3 rway_j1 lway_j1]) (R := fun g => iter (flow_residual_cheapest_b5 ldistance_j1 v_j1 lway_j1) g.1 g.2.1 = some y) (μ := fun g => g.1) (FUEL, (r0.price, 0), ()) hM ⟨rfl, rfl, rfl, rfl, rfl, rfl, rfl, trivial⟩ (fun w hm => hm.reord) ?_
    clear hM
    intro g hM KL5 hL5
    obtain ⟨nn5, ⟨lb_r0_5_7, t146_5⟩, ⟨⟩⟩ := g
    dsimp only at hM ⊢
    obtain ⟨nn5, cont5, rfl, hcont5, hM⟩ := iter_open' hM
    dsimp only [flow_residual_cheapest_b5] at hM
    refine cw_seq fun K5 hK5 => ?_
    refine cw_region ?_
    refine ow_ev ev_lss ?_
    refine ow_nil (hK5 _ _ ?_); clear hK5
    refine cw_seq fun K6 hK6 => ?_
    refine cw_cond rfl (fun hc2 => ?_) (fun hc2 => ?_)
    ·
      replace hM := (ite_t hc2).symm.trans hM
      have hc2d := of_decide_eq_true hc2
      refine cw_skip (hK6 _ _ ?_); clear hK6
      refine cw_seq fun K7 hK7 => ?_
      refine cw_block ?_
      refine cw_seq fun K8 hK8 => ?_
      refine cw_region ?_
      refine ow_ev ev_move ?_
      obtain ⟨x3, hx4, hM⟩ := bind_some hM
      refine ow_ev (ev_idx (xs := ldistance_j1) 1 (Kn.trow (e := 3) (r := rdistance_j1) (by repeat (first | exact Has.head | apply Has.tail))) (fun hg => let h := idx_some hx4; ⟨h.1, h.2.1⟩)) ?_
      refine ow_ev (ev_ld (i := (t146_5 : Int)) (xs := ldistance_j1) (y := x3) 0 (Kn.trow (e := 3) (r := rdistance_j1) (by repeat (first | exact Has.head | apply Has.tail))) (fun _ => hx4)) ?_
      refine ow_ev ev_assign ?_
      refine ow_ev ev_assign ?_
      refine ow_nil (hK8 _ _ ?_); clear hK8
      refine cw_region_z [trow 3 r_r0.1 r0.to, trow 3 r_r0.2.1 r0.left, trow 3 r_r0.2.2.1 r0.cost, rows2 (fun _ => True) 22 3 r_r0.2.2.2.1 r0.from_, trow 3 r_r0.2.2.2.2.1 r0.excess, trow 3 r_r0.2.2.2.2.2 lb_r0_5_7, own b_r0 91 [.int .i64 r0.nodes, .int .i64 r0.arcs, .slice r_r0.1.a r0.to.length r_r0.1.cap, .slice r_r0.2.1.a r0.left.length r_r0.2.1.cap, .slice r_r0.2.2.1.a r0.cost.length r_r0.2.2.1.cap, .slice r_r0.2.2.2.1.a r0.from_.length r_r0.2.2.2.1.cap, .slice r_r0.2.2.2.2.1.a r0.excess.length r_r0.2.2.2.2.1.cap, .slice r_r0.2.2.2.2.2.a lb_r0_5_7.length r_r0.2.2.2.2.2.cap], trow 3 rdistance_j1 ldistance_j1, trow 3 rway_j1 lway_j1] 15 ?_
      refine az_ev 0 rfl ev_move ?_
      refine az_ev 1 rfl ev_nilcheck ?_
      refine az_ev 2 rfl (ev_field_addr 7) ?_
      refine az_ev 3 rfl (ev_load_own (b := b_r0)) ?_
      refine az_ev 4 rfl ev_move ?_
      obtain ⟨x5, hx6, hM⟩ := bind_some hM
      refine az_ev 5 rfl (ev_idx (xs := lb_r0_5_7) 1 (Kn.trow (e := 3) (r := r_r0.2.2.2.2.2) (by repeat (first | exact Has.head | apply Has.tail))) (fun hg => let h := idx_some hx6; ⟨h.1, h.2.1⟩)) ?_
      refine az_ev 6 rfl (ev_ld (i := (t146_5 : Int)) (xs := lb_r0_5_7) (y := x5) 0 (Kn.trow (e := 3) (r := r_r0.2.2.2.2.2) (by repeat (first | exact Has.head | apply Has.tail))) (fun _ => hx6)) ?_
      refine az_ev 7 rfl ev_move ?_
      refine az_ev 8 rfl ev_move ?_
      refine az_ev 9 rfl ev_move ?_
      obtain ⟨x7, hx8, hM⟩ := bind_some hM
      refine az_ev 10 rfl (ev_idx (xs := ldistance_j1) 1 (Kn.trow (e := 3) (r := rdistance_j1) (by repeat (first | exact Has.head | apply Has.tail))) (fun hg => let h := idx_some hx8; ⟨h.1, h.2.1⟩)) ?_
      refine az_ev 11 rfl (ev_ld (i := v_j1) (xs := ldistance_j1) (y := x7) 0 (Kn.trow (e := 3) (r := rdistance_j1) (by repeat (first | exact Has.head | apply Has.tail))) (fun _ => hx8)) ?_
      refine az_ev 12 rfl ev_min2 ?_
      obtain ⟨hI9, hM⟩ := chk_some hM
      refine az_ev 13 rfl (ev_add (hr := fun hg => i64b_I64 hI9)) ?_
      obtain ⟨x10, hx11, hM⟩ := bind_some hM
      refine az_ev 14 rfl (ev_idx (xs := lb_r0_5_7) 1 (Kn.trow (e := 3) (r := r_r0.2.2.2.2.2) (by repeat (first | exact Has.head | apply Has.tail))) (fun hg => let h := idx_some hx11; ⟨h.1, h.2.1⟩)) ?_
      refine az_last rfl (st_set (r := r_r0.2.2.2.2.2) (i := (t146_5 : Int)) (xs := lb_r0_5_7) (u := x10) (vs := [.int .i64 (x5 + (if x7 < x3 then x7 else x3))]) 0 (x5 + (if x7 < x3 then x7 else x3)) hx11 rfl (fun _ _ h => h) (by repeat (first | exact Upd.head | apply Upd.tail)) ?_)
      refine az_done (hK7 _ _ ?_); clear hK7
      refine cw_region ?_
      refine ow_ev (ev_add (hr := fun _ => by unfold I64; omega)) ?_
      refine ow_ev ev_move ?_
      refine ow_nil (hL5 (nn5, ((lb_r0_5_7.set (t146_5 : Int).toNat (x5 + (if x7 < x3 then x7 else x3))), t146_5 + 1), ()) _ _ (eqc hcont5 hM) (Nat.lt_succ_self _) ⟨rfl, rfl, rfl, rfl, rfl, rfl, rfl, trivial⟩ (fun w hm => by simp only [List.length_set]; exact hm.reord))
    ·
      replace hM := (ite_f hc2).symm.trans hM
      refine cw_exit (hK3 _ _ ?_); clear hK3
      dsimp only [flow_residual_cheapest_k6] at hM
      refine cw_seq fun K9 hK9 => ?_
      refine cw_region ?_
      refine ow_ev ev_move ?_
      refine ow_ev ev_move ?_
      refine ow_ev ev_assign ?_
      refine ow_ev ev_assign ?_
      refine ow_nil (hK9 _ _ ?_); clear hK9
      obtain rfl := some_inj hM
      refine cw_ret (kw_retc2 (fun w hm => post_of (rway_j1, r_r0.2.2.2.2.2) hm rfl))

def flow_residual_augment_k2 (lacking_1 : Bool) (unit0 : Int) (cont1 : (Int × Bool × Nat) → Option (Bool × (List Int) × (List Int) × (List Int))) (x3 : Int) (t19_1 : Nat) : Int → Option (Bool × (List Int) × (List Int) × (List Int)) := fun source_j2 =>
  chk (!(!lacking_1) || i64b (-unit0)) <|
  cont1 (source_j2, (lacking_1 || decide (x3 ≤ (-unit0))), t19_1 + 1)
def flow_residual_augment_k4 (lb_r0_3_3 : List Int) (lb_r0_3_6 : List Int) (y8 : Int × (List Int) × (List Int)) : Unit → Option (Bool × (List Int) × (List Int) × (List Int)) := fun _ =>
  some (true, lb_r0_3_3, lb_r0_3_6, y8.2.2)
def flow_residual_augment_b3 (source_1 : Int) (y8 : Int × (List Int) × (List Int)) (r0 : Flow_residual) (amount_2 : Int) (cont3 : ((List Int) × (List Int) × Int) → Option (Bool × (List Int) × (List Int) × (List Int))) : ((List Int) × (List Int) × Int) → Option (Bool × (List Int) × (List Int) × (List Int)) := fun (lb_r0_3_3, lb_r0_3_6, v_3) =>
  if decide (v_3 ≠ source_1) then
    ((idx y8.2.1 v_3).bind fun x26 =>
    (flow_residual_send_m (Flow_residual.mk r0.nodes r0.arcs r0.to lb_r0_3_3 r0.cost r0.from_ lb_r0_3_6 y8.2.2) x26 amount_2).bind fun y28 =>
    (idx y8.2.1 v_3).bind fun x31 =>
    (idx r0.to (bitsXor .i64 x31 1)).bind fun x33 =>
    cont3 (y28.1, y28.2, x33))
  else
    (flow_residual_augment_k4 lb_r0_3_3 lb_r0_3_6 y8 ())
def flow_residual_augment_k3 (source_1 : Int) (y8 : Int × (List Int) × (List Int)) (r0 : Flow_residual) (amount_2 : Int) : Unit → Option (Bool × (List Int) × (List Int) × (List Int)) := fun _ =>
  iter (flow_residual_augment_b3 source_1 y8 r0 amount_2) FUEL (r0.left, r0.excess, y8.1)
def flow_residual_augment_b2 (source_1 : Int) (y8 : Int × (List Int) × (List Int)) (r0 : Flow_residual) (cont2 : (Int × Int) → Option (Bool × (List Int) × (List Int) × (List Int))) : (Int × Int) → Option (Bool × (List Int) × (List Int) × (List Int)) := fun (amount_2, v_2) =>
  if decide (v_2 ≠ source_1) then
    ((idx y8.2.1 v_2).bind fun x17 =>
    (idx r0.left x17).bind fun x19 =>
    (idx y8.2.1 v_2).bind fun x21 =>
    (idx r0.to (bitsXor .i64 x21 1)).bind fun x23 =>
    cont2 ((if x19 < amount_2 then x19 else amount_2), x23))
  else
    (flow_residual_augment_k3 source_1 y8 r0 amount_2 ())
def flow_residual_augment_k1 (source_1 : Int) (lacking_1 : Bool) (r0 : Flow_residual) (unit0 : Int) : Unit → Option (Bool × (List Int) × (List Int) × (List Int)) := fun _ =>
  if (decide (source_1 < 0) || (!lacking_1)) then
    (some (false, r0.left, r0.excess, r0.price))
  else
    ((flow_residual_cheapest_m r0 source_1 unit0).bind fun y8 =>
    (idx r0.excess source_1).bind fun x11 =>
    (idx r0.excess y8.1).bind fun x13 =>
    chk (i64b (-x13)) <|
    iter (flow_residual_augment_b2 source_1 y8 r0) FUEL ((if (-x13) < x11 then (-x13) else x11), y8.1))
def flow_residual_augment_b1 (r0 : Flow_residual) (unit0 : Int) (cont1 : (Int × Bool × Nat) → Option (Bool × (List Int) × (List Int) × (List Int))) : (Int × Bool × Nat) → Option (Bool × (List Int) × (List Int) × (List Int)) := fun (source_1, lacking_1, t19_1) =>
  if decide ((t19_1 : Int) < (r0.excess.length : Int)) then
    ((idx r0.excess (t19_1 : Int)).bind fun x3 =>
    if (decide (unit0 ≤ x3) && decide (source_1 < 0)) then
      (flow_residual_augment_k2 lacking_1 unit0 cont1 x3 t19_1 (t19_1 : Int))
    else
      (flow_residual_augment_k2 lacking_1 unit0 cont1 x3 t19_1 source_1))
  else
    (flow_residual_augment_k1 source_1 lacking_1 r0 unit0 ())
def flow_residual_augment_m (r0 : Flow_residual) (unit0 : Int) : Option (Bool × (List Int) × (List Int) × (List Int)) :=
  iter (flow_residual_augment_b1 r0 unit0) FUEL ((-1), false, 0)
theorem flow_residual_augment_spec (S : Soup) (w : World) (b_r0 : Nat) (r0 : Flow_residual) (r_r0 : GoRep.R Flow_residual) (unit0 : Int) (y : Bool × (List Int) × (List Int) × (List Int)) (hM : flow_residual_augment_m r0 unit0 = some y) (hP : Pre S [own b_r0 91 [.int .i64 r0.nodes, .int .i64 r0.arcs, .slice r_r0.1.a r0.to.length r_r0.1.cap, .slice r_r0.2.1.a r0.left.length r_r0.2.1.cap, .slice r_r0.2.2.1.a r0.cost.length r_r0.2.2.1.cap, .slice r_r0.2.2.2.1.a r0.from_.length r_r0.2.2.2.1.cap, .slice r_r0.2.2.2.2.1.a r0.excess.length r_r0.2.2.2.2.1.cap, .slice r_r0.2.2.2.2.2.a r0.price.length r_r0.2.2.2.2.2.cap], trow 3 r_r0.1 r0.to, trow 3 r_r0.2.1 r0.left, trow 3 r_r0.2.2.1 r0.cost, rows2 (fun _ => True) 22 3 r_r0.2.2.2.1 r0.from_, trow 3 r_r0.2.2.2.2.1 r0.excess, trow 3 r_r0.2.2.2.2.2 r0.price] w)  :
    Calls Try.prog 78 #[.pointer (some ⟨b_r0, 0, none⟩), .int .i64 unit0] w (Post (β := (GoRep.R (List Int)) × (GoRep.R (List Int)) × (GoRep.R (List Int))) S [own b_r0 91 [.int .i64 r0.nodes, .int .i64 r0.arcs, .slice r_r0.1.a r0.to.length r_r0.1.cap, .slice r_r0.2.1.a r0.left.length r_r0.2.1.cap, .slice r_r0.2.2.1.a r0.cost.length r_r0.2.2.1.cap, .slice r_r0.2.2.2.1.a r0.from_.length r_r0.2.2.2.1.cap, .slice r_r0.2.2.2.2.1.a r0.excess.length r_r0.2.2.2.2.1.cap, .slice r_r0.2.2.2.2.2.a r0.price.length r_r0.2.2.2.2.2.cap], trow 3 r_r0.1 r0.to, trow 3 r_r0.2.1 r0.left, trow 3 r_r0.2.2.1 r0.cost, rows2 (fun _ => True) 22 3 r_r0.2.2.2.1 r0.from_, trow 3 r_r0.2.2.2.2.1 r0.excess, trow 3 r_r0.2.2.2.2.2 r0.price] (fun g => .bool y.1) (fun g => [own b_r0 91 [.int .i64 r0.nodes, .int .i64 r0.arcs, .slice r_r0.1.a r0.to.length r_r0.1.cap, .slice g.1.a y.2.1.length g.1.cap, .slice r_r0.2.2.1.a r0.cost.length r_r0.2.2.1.cap, .slice r_r0.2.2.2.1.a r0.from_.length r_r0.2.2.2.1.cap, .slice g.2.1.a y.2.2.1.length g.2.1.cap, .slice g.2.2.a y.2.2.2.length g.2.2.cap], trow 3 r_r0.1 r0.to, trow 3 g.1 y.2.1, trow 3 r_r0.2.2.1 r0.cost, rows2 (fun _ => True) 22 3 r_r0.2.2.2.1 r0.from_, trow 3 g.2.1 y.2.2.1, trow 3 g.2.2 y.2.2.2]) w) := by
  refine calls_cw (args := [_, _]) Try.func78 rfl (hP.start) rfl ?_
  unfold flow_residual_augment_m at hM
  refine cw_seq fun K1 hK1 => ?_
  refine cw_region ?_
  refine ow_ev ev_assign ?_
  refine ow_nil (hK1 _ _ ?_); clear hK1
  refine cw_seq fun K2 hK2 => ?_
  refine cw_region ?_
  refine ow_ev ev_assign ?_
  refine ow_ev ev_assign ?_
  refine ow_nil (hK2 _ _ ?_); clear hK2
  refine cw_seq fun K3 hK3 => ?_
  refine cw_seq fun K4 hK4 => ?_
  refine cw_region ?_
  refine ow_ev ev_move ?_
  refine ow_ev ev_nilcheck ?_
  refine ow_ev (ev_field_addr 6) ?_
  refine ow_ev (ev_load_own (b := b_r0)) ?_
  refine ow_have (fun w hm => Kn.len (Kn.trow (e := 3) (r := r_r0.2.2.2.2.1) (by repeat (first | exact Has.head | apply Has.tail))) hm) fun hl1 => ?_
  refine ow_ev ev_len ?_
  refine ow_ev ev_move ?_
  refine ow_nil (hK4 _ _ ?_); clear hK4
  refine cw_block ?_
  refine cw_loop (γ := Nat × (Int × Bool × Nat) × Unit) (env := fun (_, (source_1, lacking_1, t19_1), _) => [(0, .v (.pointer (some ⟨b_r0, 0, none⟩))), (1, .v (.int .i64 unit0)), (5, .v (.int .i64 source_1)), (6, .v (.bool lacking_1)), (17, .v (.slice r_r0.2.2.2.2.1.a r0.excess.length r_r0.2.2.2.2.1.cap)), (18, .v (.int .i64 (r0.excess.length : Int))), (19, .v (.int .i64 (t19_1 : Int)))]) (mem := fun (_, (source_1, lacking_1, t19_1), _) => [trow 3 r_r0.1 r0.to, trow 3 r_r0.2.1 r0.left, trow 3 r_r0.2.2.1 r0.cost, rows2 (fun _ => True) 22 3 r_r0.2.2.2.1 r0.from_, trow 3 r_r0.2.2.2.2.1 r0.excess, trow 3 r_r0.2.2.2.2.2 r0.price, own b_r0 91 [.int .i64 r0.nodes, .int .i64 r0.arcs, .slice r_r0.1.a r0.to.length r_r0.1.cap, .slice r_r0.2.1.a r0.left.length r_r0.2.1.cap, .slice r_r0.2.2.1.a r0.cost.length r_r0.2.2.1.cap, .slice r_r0.2.2.2.1.a r0.from_.length r_r0.2.2.2.1.cap, .slice r_r0.2.2.2.2.1.a r0.excess.length r_r0.2.2.2.2.1.cap, .slice r_r0.2.2.2.2.2.a r0.price.length r_r0.2.2.2.2.2.cap]]) (R := fun g => iter (flow_residual_augment_b1 r0 unit0) g.1 g.2.1 = some y) (μ := fun g => g.1) (FUEL, ((-1), false, 0), ()) hM ⟨rfl, rfl, rfl, rfl, rfl, rfl, rfl, trivial⟩ (fun w hm => hm.reord) ?_
  clear hM
  intro g hM KL1 hL1
  obtain ⟨nn1, ⟨source_1, lacking_1, t19_1⟩, ⟨⟩⟩ := g
  dsimp only at hM ⊢
  obtain ⟨nn1, cont1, rfl, hcont1, hM⟩ := iter_open' hM
  dsimp only [flow_residual_augment_b1] at hM
  refine cw_seq fun K5 hK5 => ?_
  refine cw_region ?_
  refine ow_ev ev_lss ?_
  refine ow_nil (hK5 _ _ ?_); clear hK5
  refine cw_seq fun K6 hK6 => ?_
  refine cw_cond rfl (fun hc2 => ?_) (fun hc2 => ?_)
  ·
    replace hM := (ite_t hc2).symm.trans hM
    have hc2d := of_decide_eq_true hc2
    refine cw_skip (hK6 _ _ ?_); clear hK6
    refine cw_seq fun K7 hK7 => ?_
    refine cw_block ?_
    refine cw_seq fun K8 hK8 => ?_
    refine cw_region ?_
    refine ow_ev ev_move ?_
    obtain ⟨x3, hx4, hM⟩ := bind_some hM
    refine ow_ev (ev_idx (xs := r0.excess) 1 (Kn.trow (e := 3) (r := r_r0.2.2.2.2.1) (by repeat (first | exact Has.head | apply Has.tail))) (fun hg => let h := idx_some hx4; ⟨h.1, h.2.1⟩)) ?_
    refine ow_ev (ev_ld (i := (t19_1 : Int)) (xs := r0.excess) (y := x3) 0 (Kn.trow (e := 3) (r := r_r0.2.2.2.2.1) (by repeat (first | exact Has.head | apply Has.tail))) (fun _ => hx4)) ?_
    refine ow_ev ev_assign ?_
    refine ow_ev ev_assign ?_
    refine ow_nil (hK8 _ _ ?_); clear hK8
    refine cw_cut (γ := Int × Unit) (env := fun (source_j2, _) => [(0, .v (.pointer (some ⟨b_r0, 0, none⟩))), (1, .v (.int .i64 unit0)), (5, .v (.int .i64 source_j2)), (6, .v (.bool lacking_1)), (8, .v (.int .i64 x3)), (17, .v (.slice r_r0.2.2.2.2.1.a r0.excess.length r_r0.2.2.2.2.1.cap)), (18, .v (.int .i64 (r0.excess.length : Int))), (19, .v (.int .i64 (t19_1 : Int)))]) (mem := fun (source_j2, _) => [trow 3 r_r0.1 r0.to, trow 3 r_r0.2.1 r0.left, trow 3 r_r0.2.2.1 r0.cost, rows2 (fun _ => True) 22 3 r_r0.2.2.2.1 r0.from_, trow 3 r_r0.2.2.2.2.1 r0.excess, trow 3 r_r0.2.2.2.2.2 r0.price, own b_r0 91 [.int .i64 r0.nodes, .int .i64 r0.arcs, .slice r_r0.1.a r0.to.length r_r0.1.cap, .slice r_r0.2.1.a r0.left.length r_r0.2.1.cap, .slice r_r0.2.2.1.a r0.cost.length r_r0.2.2.1.cap, .slice r_r0.2.2.2.1.a r0.from_.length r_r0.2.2.2.1.cap, .slice r_r0.2.2.2.2.1.a r0.excess.length r_r0.2.2.2.2.1.cap, .slice r_r0.2.2.2.2.2.a r0.price.length r_r0.2.2.2.2.2.cap]]) (R := fun g => flow_residual_augment_k2 lacking_1 unit0 cont1 x3 t19_1 g.1 = some y) ?_ ?_
    · intro KJ2 hJ2
      refine cw_seq fun K9 hK9 => ?_
      refine cw_region ?_
      refine ow_ev ev_move ?_
      refine ow_ev ev_move ?_
      refine ow_ev ev_geq ?_
      refine ow_ev ev_move ?_
      refine ow_evg rfl ev_move ?_
      refine ow_evg rfl ev_lss ?_
      refine ow_ev ev_and ?_
      refine ow_nil (hK9 _ _ ?_); clear hK9
      refine cw_cond rfl (fun hc6 => ?_) (fun hc6 => ?_)
      ·
        replace hM := (ite_t hc6).symm.trans hM
        refine cw_region ?_
        refine ow_ev ev_move ?_
        refine ow_ev ev_assign ?_
        refine ow_nil (hJ2 ((t19_1 : Int), ()) _ _ hM ⟨rfl, rfl, rfl, rfl, rfl, rfl, rfl, rfl, trivial⟩ (fun w hm => hm.reord))
      ·
        replace hM := (ite_f hc6).symm.trans hM
        refine cw_skip (hJ2 (source_1, ()) _ _ hM ⟨rfl, rfl, rfl, rfl, rfl, rfl, rfl, rfl, trivial⟩ (fun w hm => hm.reord))
    ·
      clear hM
      intro g hM
      obtain ⟨source_j2, ⟨⟩⟩ := g
      dsimp only at hM ⊢
      dsimp only [flow_residual_augment_k2] at hM
      refine cw_region ?_
      refine ow_ev ev_move ?_
      refine ow_ev ev_move ?_
      refine ow_evg rfl ev_move ?_
      refine ow_evg rfl ev_move ?_
      obtain ⟨hI5, hM⟩ := chk_some hM
      refine ow_evg rfl (ev_neg (hr := fun hg => i64b_I64 (gor hI5 hg))) ?_
      refine ow_evg rfl ev_leq ?_
      refine ow_ev ev_or ?_
      refine ow_ev ev_assign ?_
      refine ow_nil (hK7 _ _ ?_); clear hK7
      refine cw_region ?_
      refine ow_ev (ev_add (hr := fun _ => by unfold I64; omega)) ?_
      refine ow_ev ev_move ?_
      refine ow_nil (hL1 (nn1, (source_j2, (lacking_1 || decide (x3 ≤ (-unit0))), t19_1 + 1), ()) _ _ (eqc hcont1 hM) (Nat.lt_succ_self _) ⟨rfl, rfl, rfl, rfl, rfl, rfl, rfl, trivial⟩ (fun w hm => hm.reord))
  ·
    replace hM := (ite_f hc2).symm.trans hM
    refine cw_exit (hK3 _ _ ?_); clear hK3
    dsimp only [flow_residual_augment_k1] at hM
    refine cw_seq fun K10 hK10 => ?_
    refine cw_seq fun K11 hK11 => ?_
    refine cw_region ?_
    refine ow_ev ev_move ?_
    refine ow_ev ev_lss ?_
    refine ow_ev ev_move ?_
    refine ow_evg rfl ev_move ?_
    refine ow_evg rfl ev_not ?_
    refine ow_ev ev_or ?_
    refine ow_nil (hK11 _ _ ?_); clear hK11
    refine cw_cond rfl (fun hc7 => ?_) (fun hc7 => ?_)
    ·
      replace hM := (ite_t hc7).symm.trans hM
      refine cw_seq fun K12 hK12 => ?_
      refine cw_region ?_
      refine ow_ev ev_assign ?_
      refine ow_nil (hK12 _ _ ?_); clear hK12
      obtain rfl := some_inj hM
      refine cw_ret (kw_retc1 (fun w hm => post_of (r_r0.2.1, r_r0.2.2.2.2.1, r_r0.2.2.2.2.2) hm rfl))
    ·
      replace hM := (ite_f hc7).symm.trans hM
      refine cw_skip (hK10 _ _ ?_); clear hK10
      refine cw_seq fun K13 hK13 => ?_
      refine cw_region ?_
      refine ow_ev ev_move ?_
      refine ow_ev ev_move ?_
      refine ow_ev ev_move ?_
      obtain ⟨y8, hy9, hM⟩ := bind_some hM
      refine ow_cons (st_callS (by repeat (first | exact SelL.nil | (apply SelL.cons; · (repeat (first | exact Sel.head | apply Sel.tail))))) (fun S w hs hP => flow_residual_cheapest_spec _ w b_r0 r0 r_r0 source_1 unit0 y8 hy9 hP )  (fun r10 => ?_))
      dsimp only [List.cons_append, List.nil_append]
      refine ow_ev ev_move ?_
      refine ow_ev (ev_extract (vs := [.int .i64 y8.1, .slice r10.1.a y8.2.1.length r10.1.cap])) ?_
      refine ow_ev (ev_extract (vs := [.int .i64 y8.1, .slice r10.1.a y8.2.1.length r10.1.cap])) ?_
      refine ow_ev ev_assign ?_
      refine ow_ev ev_assign ?_
      refine ow_nil (hK13 _ _ ?_); clear hK13
      refine cw_seq fun K14 hK14 => ?_
      refine cw_region_any _ (List.Sublist.refl _) ?_
      refine aw_ev 0 rfl ev_move ?_
      refine aw_ev 1 rfl ev_nilcheck ?_
      refine aw_ev 2 rfl (ev_field_addr 6) ?_
      refine aw_ev 3 rfl (ev_load_own (b := b_r0)) ?_
      refine aw_ev 4 rfl ev_move ?_
      obtain ⟨x11, hx12, hM⟩ := bind_some hM
      refine aw_ev 5 rfl (ev_idx (xs := r0.excess) 1 (Kn.trow (e := 3) (r := r_r0.2.2.2.2.1) (by repeat (first | exact Has.head | apply Has.tail))) (fun hg => let h := idx_some hx12; ⟨h.1, h.2.1⟩)) ?_
      refine aw_ev 6 rfl (ev_ld (i := source_1) (xs := r0.excess) (y := x11) 0 (Kn.trow (e := 3) (r := r_r0.2.2.2.2.1) (by repeat (first | exact Has.head | apply Has.tail))) (fun _ => hx12)) ?_
      refine aw_ev 7 rfl ev_move ?_
      refine aw_ev 8 rfl ev_nilcheck ?_
      refine aw_ev 9 rfl (ev_field_addr 6) ?_
      refine aw_ev 10 rfl (ev_load_own (b := b_r0)) ?_
      refine aw_ev 11 rfl ev_move ?_
      obtain ⟨x13, hx14, hM⟩ := bind_some hM
      refine aw_ev 12 rfl (ev_idx (xs := r0.excess) 1 (Kn.trow (e := 3) (r := r_r0.2.2.2.2.1) (by repeat (first | exact Has.head | apply Has.tail))) (fun hg => let h := idx_some hx14; ⟨h.1, h.2.1⟩)) ?_
      refine aw_ev 13 rfl (ev_ld (i := y8.1) (xs := r0.excess) (y := x13) 0 (Kn.trow (e := 3) (r := r_r0.2.2.2.2.1) (by repeat (first | exact Has.head | apply Has.tail))) (fun _ => hx14)) ?_
      obtain ⟨hI15, hM⟩ := chk_some hM
      refine aw_ev 14 rfl (ev_neg (hr := fun hg => i64b_I64 hI15)) ?_
      refine aw_ev 15 rfl ev_min2 ?_
      refine aw_ev 16 rfl ev_assign ?_
      refine aw_done (hK14 _ _ ?_); clear hK14
      refine cw_seq fun K15 hK15 => ?_
      refine cw_seq fun K16 hK16 => ?_
      refine cw_region ?_
      refine ow_ev ev_move ?_
      refine ow_ev ev_assign ?_
      refine ow_nil (hK16 _ _ ?_); clear hK16
      refine cw_block ?_
      refine cw_loop (γ := Nat × (Int × Int) × Unit) (env := fun (_, (amount_2, v_2), _) => [(0, .v (.pointer (some ⟨b_r0, 0, none⟩))), (5, .v (.int .i64 source_1)), (9, .v (.int .i64 y8.1)), (10, .v (.slice r10.1.a y8.2.1.length r10.1.cap)), (11, .v (.int .i64 amount_2)), (12, .v (.int .i64 v_2))]) (mem := fun (_, (amount_2, v_2), _) => [trow 3 r_r0.1 r0.to, trow 3 r_r0.2.1 r0.left, trow 3 r_r0.2.2.1 r0.cost, rows2 (fun _ => True) 22 3 r_r0.2.2.2.1 r0.from_, trow 3 r_r0.2.2.2.2.1 r0.excess, trow 3 r10.2 y8.2.2, own b_r0 91 [.int .i64 r0.nodes, .int .i64 r0.arcs, .slice r_r0.1.a r0.to.length r_r0.1.cap, .slice r_r0.2.1.a r0.left.length r_r0.2.1.cap, .slice r_r0.2.2.1.a r0.cost.length r_r0.2.2.1.cap, .slice r_r0.2.2.2.1.a r0.from_.length r_r0.2.2.2.1.cap, .slice r_r0.2.2.2.2.1.a r0.excess.length r_r0.2.2.2.2.1.cap, .slice r10.2.a y8.2.2.length r10.2.cap], trow 3 r10.1 y8.2.1]) (R := fun g => iter (flow_residual_augment_b2 source_1 y8 r0) g.1 g.2.1 = some y) (μ := fun g => g.1) (FUEL, ((if (-x13) < x11 then (-x13) else x11), y8.1), ()) hM ⟨rfl, rfl, rfl, rfl, rfl, rfl, trivial⟩ (fun w hm => hm.reord) ?_
      clear hM
      intro g hM KL2 hL2
      obtain ⟨nn2, ⟨amount_2, v_2⟩, ⟨⟩⟩ := g
      dsimp only at hM ⊢
      obtain ⟨nn2, cont2, rfl, hcont2, hM⟩ := iter_open' hM
      dsimp only [flow_residual_augment_b2] at hM
      refine cw_seq fun K17 hK17 => ?_
      refine cw_seq fun K18 hK18 => ?_
      refine cw_region ?_
      refine ow_ev ev_move ?_
      refine ow_ev ev_move ?_
      refine ow_ev ev_neq ?_
      refine ow_nil (hK18 _ _ ?_); clear hK18
      refine cw_cond rfl (fun hc16 => ?_) (fun hc16 => ?_)
      ·
        replace hM := (ite_t hc16).symm.trans hM
        refine cw_skip (hK17 _ _ ?_); clear hK17
        refine cw_seq fun K19 hK19 => ?_
        refine cw_block ?_
        refine cw_region_any _ (List.Sublist.refl _) ?_
        refine aw_ev 0 rfl ev_move ?_
        refine aw_ev 1 rfl ev_move ?_
        refine aw_ev 2 rfl ev_nilcheck ?_
        refine aw_ev 3 rfl (ev_field_addr 3) ?_
        refine aw_ev 4 rfl (ev_load_own (b := b_r0)) ?_
        refine aw_ev 5 rfl ev_move ?_
        refine aw_ev 6 rfl ev_move ?_
        obtain ⟨x17, hx18, hM⟩ := bind_some hM
        refine aw_ev 7 rfl (ev_idx (xs := y8.2.1) 1 (Kn.trow (e := 3) (r := r10.1) (by repeat (first | exact Has.head | apply Has.tail))) (fun hg => let h := idx_some hx18; ⟨h.1, h.2.1⟩)) ?_
        refine aw_ev 8 rfl (ev_ld (i := v_2) (xs := y8.2.1) (y := x17) 0 (Kn.trow (e := 3) (r := r10.1) (by repeat (first | exact Has.head | apply Has.tail))) (fun _ => hx18)) ?_
        obtain ⟨x19, hx20, hM⟩ := bind_some hM
        refine aw_ev 9 rfl (ev_idx (xs := r0.left) 1 (Kn.trow (e := 3) (r := r_r0.2.1) (by repeat (first | exact Has.head | apply Has.tail))) (fun hg => let h := idx_some hx20; ⟨h.1, h.2.1⟩)) ?_
        refine aw_ev 10 rfl (ev_ld (i := x17) (xs := r0.left) (y := x19) 0 (Kn.trow (e := 3) (r := r_r0.2.1) (by repeat (first | exact Has.head | apply Has.tail))) (fun _ => hx20)) ?_
        refine aw_ev 11 rfl ev_min2 ?_
        refine aw_ev 12 rfl ev_assign ?_
        refine aw_done (hK19 _ _ ?_); clear hK19
        refine cw_region_any _ (List.Sublist.refl _) ?_
        refine aw_ev 0 rfl ev_move ?_
        refine aw_ev 1 rfl ev_nilcheck ?_
        refine aw_ev 2 rfl (ev_field_addr 2) ?_
        refine aw_ev 3 rfl (ev_load_own (b := b_r0)) ?_
        refine aw_ev 4 rfl ev_move ?_
        refine aw_ev 5 rfl ev_move ?_
        obtain ⟨x21, hx22, hM⟩ := bind_some hM
        refine aw_ev 6 rfl (ev_idx (xs := y8.2.1) 1 (Kn.trow (e := 3) (r := r10.1) (by repeat (first | exact Has.head | apply Has.tail))) (fun hg => let h := idx_some hx22; ⟨h.1, h.2.1⟩)) ?_
        refine aw_ev 7 rfl (ev_ld (i := v_2) (xs := y8.2.1) (y := x21) 0 (Kn.trow (e := 3) (r := r10.1) (by repeat (first | exact Has.head | apply Has.tail))) (fun _ => hx22)) ?_
        refine aw_ev 8 rfl ev_xor ?_
        obtain ⟨x23, hx24, hM⟩ := bind_some hM
        refine aw_ev 9 rfl (ev_idx (xs := r0.to) 1 (Kn.trow (e := 3) (r := r_r0.1) (by repeat (first | exact Has.head | apply Has.tail))) (fun hg => let h := idx_some hx24; ⟨h.1, h.2.1⟩)) ?_
        refine aw_ev 10 rfl (ev_ld (i := (bitsXor .i64 x21 1)) (xs := r0.to) (y := x23) 0 (Kn.trow (e := 3) (r := r_r0.1) (by repeat (first | exact Has.head | apply Has.tail))) (fun _ => hx24)) ?_
        refine aw_ev 11 rfl ev_assign ?_
        refine aw_done (hL2 (nn2, ((if x19 < amount_2 then x19 else amount_2), x23), ()) _ _ (eqc hcont2 hM) (Nat.lt_succ_self _) ⟨rfl, rfl, rfl, rfl, rfl, rfl, trivial⟩ (fun w hm => hm.reord))
      ·
        replace hM := (ite_f hc16).symm.trans hM
        refine cw_exit (hK15 _ _ ?_); clear hK15
        dsimp only [flow_residual_augment_k3] at hM
        refine cw_seq fun K20 hK20 => ?_
        refine cw_seq fun K21 hK21 => ?_
        refine cw_region ?_
        refine ow_ev ev_move ?_
        refine ow_ev ev_assign ?_
        refine ow_nil (hK21 _ _ ?_); clear hK21
        refine cw_block ?_
        refine cw_loop (γ := Nat × ((List Int) × (List Int) × Int) × ((SR (GoRep.R Int)) × (SR (GoRep.R Int)))) (env := fun (_, (lb_r0_3_3, lb_r0_3_6, v_3), (rb_r0_3_3, rb_r0_3_6)) => [(0, .v (.pointer (some ⟨b_r0, 0, none⟩))), (5, .v (.int .i64 source_1)), (10, .v (.slice r10.1.a y8.2.1.length r10.1.cap)), (11, .v (.int .i64 amount_2)), (13, .v (.int .i64 v_3))]) (mem := fun (_, (lb_r0_3_3, lb_r0_3_6, v_3), (rb_r0_3_3, rb_r0_3_6)) => [trow 3 r_r0.1 r0.to, trow 3 rb_r0_3_3 lb_r0_3_3, trow 3 r_r0.2.2.1 r0.cost, rows2 (fun _ => True) 22 3 r_r0.2.2.2.1 r0.from_, trow 3 rb_r0_3_6 lb_r0_3_6, trow 3 r10.2 y8.2.2, own b_r0 91 [.int .i64 r0.nodes, .int .i64 r0.arcs, .slice r_r0.1.a r0.to.length r_r0.1.cap, .slice rb_r0_3_3.a lb_r0_3_3.length rb_r0_3_3.cap, .slice r_r0.2.2.1.a r0.cost.length r_r0.2.2.1.cap, .slice r_r0.2.2.2.1.a r0.from_.length r_r0.2.2.2.1.cap, .slice rb_r0_3_6.a lb_r0_3_6.length rb_r0_3_6.cap, .slice r10.2.a y8.2.2.length r10.2.cap], trow 3 r10.1 y8.2.1]) (R := fun g => iter (flow_residual_augment_b3 source_1 y8 r0 amount_2) g.1 g.2.1 = some y) (μ := fun g => g.1) (FUEL, (r0.left, r0.excess, y8.1), (r_r0.2.1, r_r0.2.2.2.2.1)) hM ⟨rfl, rfl, rfl, rfl, rfl, trivial⟩ (fun w hm => hm.reord) ?_
        clear hM
        intro g hM KL3 hL3
        obtain ⟨nn3, ⟨lb_r0_3_3, lb_r0_3_6, v_3⟩, ⟨rb_r0_3_3, rb_r0_3_6⟩⟩ := g
        dsimp only at hM ⊢
        obtain ⟨nn3, cont3, rfl, hcont3, hM⟩ := iter_open' hM
        dsimp only [flow_residual_augment_b3] at hM
        refine cw_seq fun K22 hK22 => ?_
        refine cw_seq fun K23 hK23 => ?_
        refine cw_region ?_
        refine ow_ev ev_move ?_
        refine ow_ev ev_move ?_
        refine ow_ev ev_neq ?_
        refine ow_nil (hK23 _ _ ?_); clear hK23
        refine cw_cond rfl (fun hc25 => ?_) (fun hc25 => ?_)
        ·
          replace hM := (ite_t hc25).symm.trans hM
          refine cw_skip (hK22 _ _ ?_); clear hK22
          refine cw_seq fun K24 hK24 => ?_
          refine cw_block ?_
          refine cw_region ?_
          refine ow_ev ev_move ?_
          refine ow_ev ev_move ?_
          refine ow_ev ev_move ?_
          obtain ⟨x26, hx27, hM⟩ := bind_some hM
          refine ow_ev (ev_idx (xs := y8.2.1) 1 (Kn.trow (e := 3) (r := r10.1) (by repeat (first | exact Has.head | apply Has.tail))) (fun hg => let h := idx_some hx27; ⟨h.1, h.2.1⟩)) ?_
          refine ow_ev (ev_ld (i := v_3) (xs := y8.2.1) (y := x26) 0 (Kn.trow (e := 3) (r := r10.1) (by repeat (first | exact Has.head | apply Has.tail))) (fun _ => hx27)) ?_
          refine ow_ev ev_move ?_
          obtain ⟨y28, hy29, hM⟩ := bind_some hM
          refine ow_cons (st_callS (by repeat (first | exact SelL.nil | (apply SelL.cons; · (repeat (first | exact Sel.head | apply Sel.tail))))) (fun S w hs hP => flow_residual_send_spec _ w b_r0 (Flow_residual.mk r0.nodes r0.arcs r0.to lb_r0_3_3 r0.cost r0.from_ lb_r0_3_6 y8.2.2) (r_r0.1, rb_r0_3_3, r_r0.2.2.1, r_r0.2.2.2.1, rb_r0_3_6, r10.2) x26 amount_2 y28 hy29 hP )  (fun r30 => ?_))
          dsimp only [List.cons_append, List.nil_append]
          refine ow_nil (hK24 _ _ ?_); clear hK24
          refine cw_region_any _ (List.Sublist.refl _) ?_
          refine aw_ev 0 rfl ev_move ?_
          refine aw_ev 1 rfl ev_nilcheck ?_
          refine aw_ev 2 rfl (ev_field_addr 2) ?_
          refine aw_ev 3 rfl (ev_load_own (b := b_r0)) ?_
          refine aw_ev 4 rfl ev_move ?_
          refine aw_ev 5 rfl ev_move ?_
          obtain ⟨x31, hx32, hM⟩ := bind_some hM
          refine aw_ev 6 rfl (ev_idx (xs := y8.2.1) 1 (Kn.trow (e := 3) (r := r10.1) (by repeat (first | exact Has.head | apply Has.tail))) (fun hg => let h := idx_some hx32; ⟨h.1, h.2.1⟩)) ?_
          refine aw_ev 7 rfl (ev_ld (i := v_3) (xs := y8.2.1) (y := x31) 0 (Kn.trow (e := 3) (r := r10.1) (by repeat (first | exact Has.head | apply Has.tail))) (fun _ => hx32)) ?_
          refine aw_ev 8 rfl ev_xor ?_
          obtain ⟨x33, hx34, hM⟩ := bind_some hM
          refine aw_ev 9 rfl (ev_idx (xs := r0.to) 1 (Kn.trow (e := 3) (r := r_r0.1) (by repeat (first | exact Has.head | apply Has.tail))) (fun hg => let h := idx_some hx34; ⟨h.1, h.2.1⟩)) ?_
          refine aw_ev 10 rfl (ev_ld (i := (bitsXor .i64 x31 1)) (xs := r0.to) (y := x33) 0 (Kn.trow (e := 3) (r := r_r0.1) (by repeat (first | exact Has.head | apply Has.tail))) (fun _ => hx34)) ?_
          refine aw_ev 11 rfl ev_assign ?_
          refine aw_done (hL3 (nn3, (y28.1, y28.2, x33), (r30.1, r30.2)) _ _ (eqc hcont3 hM) (Nat.lt_succ_self _) ⟨rfl, rfl, rfl, rfl, rfl, trivial⟩ (fun w hm => hm.reord))
        ·
          replace hM := (ite_f hc25).symm.trans hM
          refine cw_exit (hK20 _ _ ?_); clear hK20
          dsimp only [flow_residual_augment_k4] at hM
          refine cw_seq fun K25 hK25 => ?_
          refine cw_region ?_
          refine ow_ev ev_assign ?_
          refine ow_nil (hK25 _ _ ?_); clear hK25
          obtain rfl := some_inj hM
          refine cw_ret (kw_retc1 (fun w hm => post_of (rb_r0_3_3, rb_r0_3_6, r10.2) hm rfl))

def flow_residual_solve_k3 (cont2 : ((List Int) × (List Int) × Nat) → Option ((List Int) × (List Int) × (List Int))) (t13_2 : Nat) : ((List Int) × (List Int)) → Option ((List Int) × (List Int) × (List Int)) := fun (lb_r0_j3_3, lb_r0_j3_6) =>
  cont2 (lb_r0_j3_3, lb_r0_j3_6, t13_2 + 1)
def flow_residual_solve_k1 (unit_1 : Int) (cont1 : ((List Int) × (List Int) × (List Int) × Int) → Option ((List Int) × (List Int) × (List Int))) (y14 : Bool × (List Int) × (List Int) × (List Int)) : Unit → Option ((List Int) × (List Int) × (List Int)) := fun _ =>
  chk (decide (2 ≠ 0) && i64b (unit_1.tdiv 2)) <|
  cont1 (y14.2.1, y14.2.2.1, y14.2.2.2, (unit_1.tdiv 2))
def flow_residual_solve_b3 (r0 : Flow_residual) (unit_1 : Int) (cont1 : ((List Int) × (List Int) × (List Int) × Int) → Option ((List Int) × (List Int) × (List Int))) (cont3 : ((List Int) × (List Int) × (List Int)) → Option ((List Int) × (List Int) × (List Int))) : ((List Int) × (List Int) × (List Int)) → Option ((List Int) × (List Int) × (List Int)) := fun (lb_r0_3_3, lb_r0_3_6, lb_r0_3_7) =>
  (flow_residual_augment_m (Flow_residual.mk r0.nodes r0.arcs r0.to lb_r0_3_3 r0.cost r0.from_ lb_r0_3_6 lb_r0_3_7) unit_1).bind fun y14 =>
  if y14.1 then
    (cont3 (y14.2.1, y14.2.2.1, y14.2.2.2))
  else
    (flow_residual_solve_k1 unit_1 cont1 y14 ())
def flow_residual_solve_k2 (r0 : Flow_residual) (unit_1 : Int) (cont1 : ((List Int) × (List Int) × (List Int) × Int) → Option ((List Int) × (List Int) × (List Int))) (lb_r0_2_3 : List Int) (lb_r0_2_6 : List Int) (lb_r0_1_7 : List Int) : Unit → Option ((List Int) × (List Int) × (List Int)) := fun _ =>
  iter (flow_residual_solve_b3 r0 unit_1 cont1) FUEL (lb_r0_2_3, lb_r0_2_6, lb_r0_1_7)
def flow_residual_solve_b2 (r0 : Flow_residual) (unit_1 : Int) (lb_r0_1_7 : List Int) (cont1 : ((List Int) × (List Int) × (List Int) × Int) → Option ((List Int) × (List Int) × (List Int))) (cont2 : ((List Int) × (List Int) × Nat) → Option ((List Int) × (List Int) × (List Int))) : ((List Int) × (List Int) × Nat) → Option ((List Int) × (List Int) × (List Int)) := fun (lb_r0_2_3, lb_r0_2_6, t13_2) =>
  if decide ((t13_2 : Int) < (r0.to.length : Int)) then
    ((idx lb_r0_2_3 (t13_2 : Int)).bind fun x4 =>
    (whn (decide (unit_1 ≤ x4)) default (flow_residual_reduced_m (Flow_residual.mk r0.nodes r0.arcs r0.to lb_r0_2_3 r0.cost r0.from_ lb_r0_2_6 lb_r0_1_7) (t13_2 : Int))).bind fun y6 =>
    if (decide (unit_1 ≤ x4) && decide (y6 < 0)) then
      ((idx lb_r0_2_3 (t13_2 : Int)).bind fun x9 =>
      (flow_residual_send_m (Flow_residual.mk r0.nodes r0.arcs r0.to lb_r0_2_3 r0.cost r0.from_ lb_r0_2_6 lb_r0_1_7) (t13_2 : Int) x9).bind fun y11 =>
      flow_residual_solve_k3 cont2 t13_2 (y11.1, y11.2))
    else
      (flow_residual_solve_k3 cont2 t13_2 (lb_r0_2_3, lb_r0_2_6)))
  else
    (flow_residual_solve_k2 r0 unit_1 cont1 lb_r0_2_3 lb_r0_2_6 lb_r0_1_7 ())
def flow_residual_solve_b1 (r0 : Flow_residual) (cont1 : ((List Int) × (List Int) × (List Int) × Int) → Option ((List Int) × (List Int) × (List Int))) : ((List Int) × (List Int) × (List Int) × Int) → Option ((List Int) × (List Int) × (List Int)) := fun (lb_r0_1_3, lb_r0_1_6, lb_r0_1_7, unit_1) =>
  if decide (1 ≤ unit_1) then
    (iter (flow_residual_solve_b2 r0 unit_1 lb_r0_1_7 cont1) FUEL (lb_r0_1_3, lb_r0_1_6, 0))
  else
    (some (lb_r0_1_3, lb_r0_1_6, lb_r0_1_7))
def flow_residual_solve_m (r0 : Flow_residual) : Option ((List Int) × (List Int) × (List Int)) :=
  iter (flow_residual_solve_b1 r0) FUEL (r0.left, r0.excess, r0.price, 2097152)
theorem flow_residual_solve_spec (S : Soup) (w : World) (b_r0 : Nat) (r0 : Flow_residual) (r_r0 : GoRep.R Flow_residual) (y : (List Int) × (List Int) × (List Int)) (hM : flow_residual_solve_m r0 = some y) (hP : Pre S [own b_r0 91 [.int .i64 r0.nodes, .int .i64 r0.arcs, .slice r_r0.1.a r0.to.length r_r0.1.cap, .slice r_r0.2.1.a r0.left.length r_r0.2.1.cap, .slice r_r0.2.2.1.a r0.cost.length r_r0.2.2.1.cap, .slice r_r0.2.2.2.1.a r0.from_.length r_r0.2.2.2.1.cap, .slice r_r0.2.2.2.2.1.a r0.excess.length r_r0.2.2.2.2.1.cap, .slice r_r0.2.2.2.2.2.a r0.price.length r_r0.2.2.2.2.2.cap], trow 3 r_r0.1 r0.to, trow 3 r_r0.2.1 r0.left, trow 3 r_r0.2.2.1 r0.cost, rows2 (fun _ => True) 22 3 r_r0.2.2.2.1 r0.from_, trow 3 r_r0.2.2.2.2.1 r0.excess, trow 3 r_r0.2.2.2.2.2 r0.price] w)  :
    Calls Try.prog 55 #[.pointer (some ⟨b_r0, 0, none⟩)] w (Post (β := (GoRep.R (List Int)) × (GoRep.R (List Int)) × (GoRep.R (List Int))) S [own b_r0 91 [.int .i64 r0.nodes, .int .i64 r0.arcs, .slice r_r0.1.a r0.to.length r_r0.1.cap, .slice r_r0.2.1.a r0.left.length r_r0.2.1.cap, .slice r_r0.2.2.1.a r0.cost.length r_r0.2.2.1.cap, .slice r_r0.2.2.2.1.a r0.from_.length r_r0.2.2.2.1.cap, .slice r_r0.2.2.2.2.1.a r0.excess.length r_r0.2.2.2.2.1.cap, .slice r_r0.2.2.2.2.2.a r0.price.length r_r0.2.2.2.2.2.cap], trow 3 r_r0.1 r0.to, trow 3 r_r0.2.1 r0.left, trow 3 r_r0.2.2.1 r0.cost, rows2 (fun _ => True) 22 3 r_r0.2.2.2.1 r0.from_, trow 3 r_r0.2.2.2.2.1 r0.excess, trow 3 r_r0.2.2.2.2.2 r0.price] (fun g => .tuple #[]) (fun g => [own b_r0 91 [.int .i64 r0.nodes, .int .i64 r0.arcs, .slice r_r0.1.a r0.to.length r_r0.1.cap, .slice g.1.a y.1.length g.1.cap, .slice r_r0.2.2.1.a r0.cost.length r_r0.2.2.1.cap, .slice r_r0.2.2.2.1.a r0.from_.length r_r0.2.2.2.1.cap, .slice g.2.1.a y.2.1.length g.2.1.cap, .slice g.2.2.a y.2.2.length g.2.2.cap], trow 3 r_r0.1 r0.to, trow 3 g.1 y.1, trow 3 r_r0.2.2.1 r0.cost, rows2 (fun _ => True) 22 3 r_r0.2.2.2.1 r0.from_, trow 3 g.2.1 y.2.1, trow 3 g.2.2 y.2.2]) w) := by
  refine calls_cw (args := [_]) Try.func55 rfl (hP.start) rfl ?_
  unfold flow_residual_solve_m at hM
  refine cw_seq fun K1 hK1 => ?_
  refine cw_region ?_
  refine ow_ev ev_assign ?_
  refine ow_nil (hK1 _ _ ?_); clear hK1
  refine cw_block ?_
  refine cw_loop (γ := Nat × ((List Int) × (List Int) × (List Int) × Int) × ((SR (GoRep.R Int)) × (SR (GoRep.R Int)) × (SR (GoRep.R Int)))) (env := fun (_, (lb_r0_1_3, lb_r0_1_6, lb_r0_1_7, unit_1), (rb_r0_1_3, rb_r0_1_6, rb_r0_1_7)) => [(0, .v (.pointer (some ⟨b_r0, 0, none⟩))), (2, .v (.int .i64 unit_1))]) (mem := fun (_, (lb_r0_1_3, lb_r0_1_6, lb_r0_1_7, unit_1), (rb_r0_1_3, rb_r0_1_6, rb_r0_1_7)) => [trow 3 r_r0.1 r0.to, trow 3 rb_r0_1_3 lb_r0_1_3, trow 3 r_r0.2.2.1 r0.cost, rows2 (fun _ => True) 22 3 r_r0.2.2.2.1 r0.from_, trow 3 rb_r0_1_6 lb_r0_1_6, trow 3 rb_r0_1_7 lb_r0_1_7, own b_r0 91 [.int .i64 r0.nodes, .int .i64 r0.arcs, .slice r_r0.1.a r0.to.length r_r0.1.cap, .slice rb_r0_1_3.a lb_r0_1_3.length rb_r0_1_3.cap, .slice r_r0.2.2.1.a r0.cost.length r_r0.2.2.1.cap, .slice r_r0.2.2.2.1.a r0.from_.length r_r0.2.2.2.1.cap, .slice rb_r0_1_6.a lb_r0_1_6.length rb_r0_1_6.cap, .slice rb_r0_1_7.a lb_r0_1_7.length rb_r0_1_7.cap]]) (R := fun g => iter (flow_residual_solve_b1 r0) g.1 g.2.1 = some y) (μ := fun g => g.1) (FUEL, (r0.left, r0.excess, r0.price, 2097152), (r_r0.2.1, r_r0.2.2.2.2.1, r_r0.2.2.2.2.2)) hM ⟨rfl, rfl, trivial⟩ (fun w hm => hm.reord) ?_
  clear hM
  intro g hM KL1 hL1
  obtain ⟨nn1, ⟨lb_r0_1_3, lb_r0_1_6, lb_r0_1_7, unit_1⟩, ⟨rb_r0_1_3, rb_r0_1_6, rb_r0_1_7⟩⟩ := g
  dsimp only at hM ⊢
  obtain ⟨nn1, cont1, rfl, hcont1, hM⟩ := iter_open' hM
  dsimp only [flow_residual_solve_b1] at hM
  refine cw_seq fun K2 hK2 => ?_
  refine cw_seq fun K3 hK3 => ?_
  refine cw_region ?_
  refine ow_ev ev_move ?_
  refine ow_ev ev_geq ?_
  refine ow_nil (hK3 _ _ ?_); clear hK3
  refine cw_cond rfl (fun hc1 => ?_) (fun hc1 => ?_)
  ·
    replace hM := (ite_t hc1).symm.trans hM
    refine cw_skip (hK2 _ _ ?_); clear hK2
    refine cw_seq fun K4 hK4 => ?_
    refine cw_block ?_
    refine cw_seq fun K5 hK5 => ?_
    refine cw_seq fun K6 hK6 => ?_
    refine cw_region ?_
    refine ow_ev ev_move ?_
    refine ow_ev ev_nilcheck ?_
    refine ow_ev (ev_field_addr 2) ?_
    refine ow_ev (ev_load_own (b := b_r0)) ?_
    refine ow_have (fun w hm => Kn.len (Kn.trow (e := 3) (r := r_r0.1) (by repeat (first | exact Has.head | apply Has.tail))) hm) fun hl2 => ?_
    refine ow_ev ev_len ?_
    refine ow_ev ev_move ?_
    refine ow_nil (hK6 _ _ ?_); clear hK6
    refine cw_block ?_
    refine cw_loop (γ := Nat × ((List Int) × (List Int) × Nat) × ((SR (GoRep.R Int)) × (SR (GoRep.R Int)))) (env := fun (_, (lb_r0_2_3, lb_r0_2_6, t13_2), (rb_r0_2_3, rb_r0_2_6)) => [(0, .v (.pointer (some ⟨b_r0, 0, none⟩))), (2, .v (.int .i64 unit_1)), (12, .v (.int .i64 (r0.to.length : Int))), (13, .v (.int .i64 (t13_2 : Int)))]) (mem := fun (_, (lb_r0_2_3, lb_r0_2_6, t13_2), (rb_r0_2_3, rb_r0_2_6)) => [trow 3 r_r0.1 r0.to, trow 3 rb_r0_2_3 lb_r0_2_3, trow 3 r_r0.2.2.1 r0.cost, rows2 (fun _ => True) 22 3 r_r0.2.2.2.1 r0.from_, trow 3 rb_r0_2_6 lb_r0_2_6, trow 3 rb_r0_1_7 lb_r0_1_7, own b_r0 91 [.int .i64 r0.nodes, .int .i64 r0.arcs, .slice r_r0.1.a r0.to.length r_r0.1.cap, .slice rb_r0_2_3.a lb_r0_2_3.length rb_r0_2_3.cap, .slice r_r0.2.2.1.a r0.cost.length r_r0.2.2.1.cap, .slice r_r0.2.2.2.1.a r0.from_.length r_r0.2.2.2.1.cap, .slice rb_r0_2_6.a lb_r0_2_6.length rb_r0_2_6.cap, .slice rb_r0_1_7.a lb_r0_1_7.length rb_r0_1_7.cap]]) (R := fun g => iter (flow_residual_solve_b2 r0 unit_1 lb_r0_1_7 cont1) g.1 g.2.1 = some y) (μ := fun g => g.1) (FUEL, (lb_r0_1_3, lb_r0_1_6, 0), (rb_r0_1_3, rb_r0_1_6)) hM ⟨rfl, rfl, rfl, rfl, trivial⟩ (fun w hm => hm.reord) ?_
    clear hM
    intro g hM KL2 hL2
    obtain ⟨nn2, ⟨lb_r0_2_3, lb_r0_2_6, t13_2⟩, ⟨rb_r0_2_3, rb_r0_2_6⟩⟩ := g
    dsimp only at hM ⊢
    obtain ⟨nn2, cont2, rfl, hcont2, hM⟩ := iter_open' hM
    dsimp only [flow_residual_solve_b2] at hM
    refine cw_seq fun K7 hK7 => ?_
    refine cw_region ?_
    refine ow_ev ev_lss ?_
    refine ow_nil (hK7 _ _ ?_); clear hK7
    refine cw_seq fun K8 hK8 => ?_
    refine cw_cond rfl (fun hc3 => ?_) (fun hc3 => ?_)
    ·
      replace hM := (ite_t hc3).symm.trans hM
      have hc3d := of_decide_eq_true hc3
      refine cw_skip (hK8 _ _ ?_); clear hK8
      refine cw_cut (γ := ((List Int) × (List Int)) × ((SR (GoRep.R Int)) × (SR (GoRep.R Int)))) (env := fun ((lb_r0_j3_3, lb_r0_j3_6), (rb_r0_j3_3, rb_r0_j3_6)) => [(0, .v (.pointer (some ⟨b_r0, 0, none⟩))), (2, .v (.int .i64 unit_1)), (12, .v (.int .i64 (r0.to.length : Int))), (13, .v (.int .i64 (t13_2 : Int)))]) (mem := fun ((lb_r0_j3_3, lb_r0_j3_6), (rb_r0_j3_3, rb_r0_j3_6)) => [trow 3 r_r0.1 r0.to, trow 3 rb_r0_j3_3 lb_r0_j3_3, trow 3 r_r0.2.2.1 r0.cost, rows2 (fun _ => True) 22 3 r_r0.2.2.2.1 r0.from_, trow 3 rb_r0_j3_6 lb_r0_j3_6, trow 3 rb_r0_1_7 lb_r0_1_7, own b_r0 91 [.int .i64 r0.nodes, .int .i64 r0.arcs, .slice r_r0.1.a r0.to.length r_r0.1.cap, .slice rb_r0_j3_3.a lb_r0_j3_3.length rb_r0_j3_3.cap, .slice r_r0.2.2.1.a r0.cost.length r_r0.2.2.1.cap, .slice r_r0.2.2.2.1.a r0.from_.length r_r0.2.2.2.1.cap, .slice rb_r0_j3_6.a lb_r0_j3_6.length rb_r0_j3_6.cap, .slice rb_r0_1_7.a lb_r0_1_7.length rb_r0_1_7.cap]]) (R := fun g => flow_residual_solve_k3 cont2 t13_2 g.1 = some y) ?_ ?_
      · intro KJ3 hJ3
        refine cw_block ?_
        refine cw_seq fun K9 hK9 => ?_
        refine cw_region ?_
        refine ow_ev ev_move ?_
        refine ow_ev ev_assign ?_
        refine ow_nil (hK9 _ _ ?_); clear hK9
        refine cw_seq fun K10 hK10 => ?_
        refine cw_region ?_
        refine ow_ev ev_move ?_
        refine ow_ev ev_nilcheck ?_
        refine ow_ev (ev_field_addr 3) ?_
        refine ow_ev (ev_load_own (b := b_r0)) ?_
        refine ow_ev ev_move ?_
        obtain ⟨x4, hx5, hM⟩ := bind_some hM
        refine ow_ev (ev_idx (xs := lb_r0_2_3) 1 (Kn.trow (e := 3) (r := rb_r0_2_3) (by repeat (first | exact Has.head | apply Has.tail))) (fun hg => let h := idx_some hx5; ⟨h.1, h.2.1⟩)) ?_
        refine ow_ev (ev_ld (i := (t13_2 : Int)) (xs := lb_r0_2_3) (y := x4) 0 (Kn.trow (e := 3) (r := rb_r0_2_3) (by repeat (first | exact Has.head | apply Has.tail))) (fun _ => hx5)) ?_
        refine ow_ev ev_move ?_
        refine ow_ev ev_geq ?_
        refine ow_ev ev_move ?_
        refine ow_evg rfl ev_move ?_
        refine ow_evg rfl ev_move ?_
        obtain ⟨y6, hy7, hM⟩ := bind_some hM
        refine ow_callg rfl (fun hg w hm => let ⟨S, hs⟩ := hm; flow_residual_reduced_spec _ w b_r0 (Flow_residual.mk r0.nodes r0.arcs r0.to lb_r0_2_3 r0.cost r0.from_ lb_r0_2_6 lb_r0_1_7) (r_r0.1, rb_r0_2_3, r_r0.2.2.1, r_r0.2.2.2.1, rb_r0_2_6, rb_r0_1_7) (t13_2 : Int) y6 (whn_some hy7 hg) (lend_lt hs) (own_lend (by repeat (first | exact Has.head | apply Has.tail)) hs) ⟨(Kn.lend (Kn.trow (e := 3) (r := r_r0.1) (by repeat (first | exact Has.head | apply Has.tail))) hs), (Kn.lend (Kn.trow (e := 3) (r := rb_r0_2_3) (by repeat (first | exact Has.head | apply Has.tail))) hs), (Kn.lend (Kn.trow (e := 3) (r := r_r0.2.2.1) (by repeat (first | exact Has.head | apply Has.tail))) hs), (Kn.lend (Kn.trow2 (e := 22) (r := r_r0.2.2.2.1) (by repeat (first | exact Has.head | apply Has.tail))) hs), (Kn.lend (Kn.trow (e := 3) (r := rb_r0_2_6) (by repeat (first | exact Has.head | apply Has.tail))) hs), (Kn.lend (Kn.trow (e := 3) (r := rb_r0_1_7) (by repeat (first | exact Has.head | apply Has.tail))) hs)⟩) ?_
        refine ow_evg rfl ev_lss ?_
        refine ow_ev ev_and ?_
        refine ow_nil (hK10 _ _ ?_); clear hK10
        refine cw_cond rfl (fun hc8 => ?_) (fun hc8 => ?_)
        ·
          replace hM := (ite_t hc8).symm.trans hM
          refine cw_region ?_
          refine ow_ev ev_move ?_
          refine ow_ev ev_move ?_
          refine ow_ev ev_move ?_
          refine ow_ev ev_nilcheck ?_
          refine ow_ev (ev_field_addr 3) ?_
          refine ow_ev (ev_load_own (b := b_r0)) ?_
          refine ow_ev ev_move ?_
          obtain ⟨x9, hx10, hM⟩ := bind_some hM
          refine ow_ev (ev_idx (xs := lb_r0_2_3) 1 (Kn.trow (e := 3) (r := rb_r0_2_3) (by repeat (first | exact Has.head | apply Has.tail))) (fun hg => let h := idx_some hx10; ⟨h.1, h.2.1⟩)) ?_
          refine ow_ev (ev_ld (i := (t13_2 : Int)) (xs := lb_r0_2_3) (y := x9) 0 (Kn.trow (e := 3) (r := rb_r0_2_3) (by repeat (first | exact Has.head | apply Has.tail))) (fun _ => hx10)) ?_
          obtain ⟨y11, hy12, hM⟩ := bind_some hM
          refine ow_cons (st_callS (by repeat (first | exact SelL.nil | (apply SelL.cons; · (repeat (first | exact Sel.head | apply Sel.tail))))) (fun S w hs hP => flow_residual_send_spec _ w b_r0 (Flow_residual.mk r0.nodes r0.arcs r0.to lb_r0_2_3 r0.cost r0.from_ lb_r0_2_6 lb_r0_1_7) (r_r0.1, rb_r0_2_3, r_r0.2.2.1, r_r0.2.2.2.1, rb_r0_2_6, rb_r0_1_7) (t13_2 : Int) x9 y11 hy12 hP )  (fun r13 => ?_))
          dsimp only [List.cons_append, List.nil_append]
          refine ow_nil (hJ3 ((y11.1, y11.2), (r13.1, r13.2)) _ _ hM ⟨rfl, rfl, rfl, rfl, trivial⟩ (fun w hm => hm.reord))
        ·
          replace hM := (ite_f hc8).symm.trans hM
          refine cw_skip (hJ3 ((lb_r0_2_3, lb_r0_2_6), (rb_r0_2_3, rb_r0_2_6)) _ _ hM ⟨rfl, rfl, rfl, rfl, trivial⟩ (fun w hm => hm.reord))
      ·
        clear hM
        intro g hM
        obtain ⟨⟨lb_r0_j3_3, lb_r0_j3_6⟩, ⟨rb_r0_j3_3, rb_r0_j3_6⟩⟩ := g
        dsimp only at hM ⊢
        dsimp only [flow_residual_solve_k3] at hM
        refine cw_region ?_
        refine ow_ev (ev_add (hr := fun _ => by unfold I64; omega)) ?_
        refine ow_ev ev_move ?_
        refine ow_nil (hL2 (nn2, (lb_r0_j3_3, lb_r0_j3_6, t13_2 + 1), (rb_r0_j3_3, rb_r0_j3_6)) _ _ (eqc hcont2 hM) (Nat.lt_succ_self _) ⟨rfl, rfl, rfl, rfl, trivial⟩ (fun w hm => hm.reord))
    ·
      replace hM := (ite_f hc3).symm.trans hM
      refine cw_exit (hK5 _ _ ?_); clear hK5
      dsimp only [flow_residual_solve_k2] at hM
      refine cw_block ?_
      refine cw_loop (γ := Nat × ((List Int) × (List Int) × (List Int)) × ((SR (GoRep.R Int)) × (SR (GoRep.R Int)) × (SR (GoRep.R Int)))) (env := fun (_, (lb_r0_3_3, lb_r0_3_6, lb_r0_3_7), (rb_r0_3_3, rb_r0_3_6, rb_r0_3_7)) => [(0, .v (.pointer (some ⟨b_r0, 0, none⟩))), (2, .v (.int .i64 unit_1))]) (mem := fun (_, (lb_r0_3_3, lb_r0_3_6, lb_r0_3_7), (rb_r0_3_3, rb_r0_3_6, rb_r0_3_7)) => [trow 3 r_r0.1 r0.to, trow 3 rb_r0_3_3 lb_r0_3_3, trow 3 r_r0.2.2.1 r0.cost, rows2 (fun _ => True) 22 3 r_r0.2.2.2.1 r0.from_, trow 3 rb_r0_3_6 lb_r0_3_6, trow 3 rb_r0_3_7 lb_r0_3_7, own b_r0 91 [.int .i64 r0.nodes, .int .i64 r0.arcs, .slice r_r0.1.a r0.to.length r_r0.1.cap, .slice rb_r0_3_3.a lb_r0_3_3.length rb_r0_3_3.cap, .slice r_r0.2.2.1.a r0.cost.length r_r0.2.2.1.cap, .slice r_r0.2.2.2.1.a r0.from_.length r_r0.2.2.2.1.cap, .slice rb_r0_3_6.a lb_r0_3_6.length rb_r0_3_6.cap, .slice rb_r0_3_7.a lb_r0_3_7.length rb_r0_3_7.cap]]) (R := fun g => iter (flow_residual_solve_b3 r0 unit_1 cont1) g.1 g.2.1 = some y) (μ := fun g => g.1) (FUEL, (lb_r0_2_3, lb_r0_2_6, lb_r0_1_7), (rb_r0_2_3, rb_r0_2_6, rb_r0_1_7)) hM ⟨rfl, rfl, trivial⟩ (fun w hm => hm.reord) ?_
      clear hM
      intro g hM KL3 hL3
      obtain ⟨nn3, ⟨lb_r0_3_3, lb_r0_3_6, lb_r0_3_7⟩, ⟨rb_r0_3_3, rb_r0_3_6, rb_r0_3_7⟩⟩ := g
      dsimp only at hM ⊢
      obtain ⟨nn3, cont3, rfl, hcont3, hM⟩ := iter_open' hM
      dsimp only [flow_residual_solve_b3] at hM
      refine cw_seq fun K11 hK11 => ?_
      refine cw_seq fun K12 hK12 => ?_
      refine cw_region ?_
      refine ow_ev ev_move ?_
      refine ow_ev ev_move ?_
      obtain ⟨y14, hy15, hM⟩ := bind_some hM
      refine ow_cons (st_callS (by repeat (first | exact SelL.nil | (apply SelL.cons; · (repeat (first | exact Sel.head | apply Sel.tail))))) (fun S w hs hP => flow_residual_augment_spec _ w b_r0 (Flow_residual.mk r0.nodes r0.arcs r0.to lb_r0_3_3 r0.cost r0.from_ lb_r0_3_6 lb_r0_3_7) (r_r0.1, rb_r0_3_3, r_r0.2.2.1, r_r0.2.2.2.1, rb_r0_3_6, rb_r0_3_7) unit_1 y14 hy15 hP )  (fun r16 => ?_))
      dsimp only [List.cons_append, List.nil_append]
      refine ow_nil (hK12 _ _ ?_); clear hK12
      refine cw_cond rfl (fun hc17 => ?_) (fun hc17 => ?_)
      ·
        replace hM := (ite_t hc17).symm.trans hM
        refine cw_skip (hK11 _ _ ?_); clear hK11
        refine cw_block ?_
        refine cw_skip (hL3 (nn3, (y14.2.1, y14.2.2.1, y14.2.2.2), (r16.1, r16.2.1, r16.2.2)) _ _ (eqc hcont3 hM) (Nat.lt_succ_self _) ⟨rfl, rfl, trivial⟩ (fun w hm => hm.reord))
      ·
        replace hM := (ite_f hc17).symm.trans hM
        refine cw_exit (hK4 _ _ ?_); clear hK4
        dsimp only [flow_residual_solve_k1] at hM
        refine cw_region ?_
        refine ow_ev ev_move ?_
        obtain ⟨hI18, hM⟩ := chk_some hM
        refine ow_ev (ev_quo' (hr := fun hg => quo_ok hI18)) ?_
        refine ow_ev ev_assign ?_
        refine ow_nil (hL1 (nn1, (y14.2.1, y14.2.2.1, y14.2.2.2, (unit_1.tdiv 2)), (r16.1, r16.2.1, r16.2.2)) _ _ (eqc hcont1 hM) (Nat.lt_succ_self _) ⟨rfl, rfl, trivial⟩ (fun w hm => hm.reord))
  ·
    replace hM := (ite_f hc1).symm.trans hM
    obtain rfl := some_inj hM
    refine cw_exit (kw_end0 rfl (fun w hm => post_of (rb_r0_1_3, rb_r0_1_6, rb_r0_1_7) hm rfl))

def flow_residual_feasible_k1 : Unit → Option Bool := fun _ =>
  some true
def flow_residual_feasible_b1 (r0 : Flow_residual) (cont1 : Int → Option Bool) : Int → Option Bool := fun i_1 =>
  chk (decide (2 ≠ 0) && i64b ((r0.to.length : Int).tdiv 2)) <|
  if decide (i_1 < ((r0.to.length : Int).tdiv 2)) then
    (chk (i64b (2 * i_1)) <|
    chk (i64b ((2 * i_1) + 1)) <|
    (idx r0.left ((2 * i_1) + 1)).bind fun x5 =>
    if decide (0 < x5) then
      (some false)
    else
      (chk (i64b (i_1 + 1)) <|
      cont1 (i_1 + 1)))
  else
    (flow_residual_feasible_k1 ())
def flow_residual_feasible_m (r0 : Flow_residual) : Option Bool :=
  iter (flow_residual_feasible_b1 r0) FUEL r0.arcs
theorem flow_residual_feasible_spec (S : Soup) (w : World) (b_r0 : Nat) (r0 : Flow_residual) (r_r0 : GoRep.R Flow_residual) (y : Bool) (hM : flow_residual_feasible_m r0 = some y) (hS : ∀ k, S k → k < w.heap.size) (hb_r0 : S b_r0 ∧ w.heap[b_r0]? = some (.cells [.int .i64 r0.nodes, .int .i64 r0.arcs, .slice r_r0.1.a r0.to.length r_r0.1.cap, .slice r_r0.2.1.a r0.left.length r_r0.2.1.cap, .slice r_r0.2.2.1.a r0.cost.length r_r0.2.2.1.cap, .slice r_r0.2.2.2.1.a r0.from_.length r_r0.2.2.2.1.cap, .slice r_r0.2.2.2.2.1.a r0.excess.length r_r0.2.2.2.2.1.cap, .slice r_r0.2.2.2.2.2.a r0.price.length r_r0.2.2.2.2.2.cap].toArray 91 (0, 0))) (h_r0 : GoRep.ok S w r_r0 r0) :
    Calls Try.prog 56 #[.pointer (some ⟨b_r0, 0, none⟩)] w (Ret w (.bool y)) := by
  refine calls_cw (args := [_]) Try.func56 rfl ((pre_nil hS).start |>.rboxP hb_r0|>.immP (α := List Int) (r := r_r0.1) (x := r0.to) h_r0.1|>.immP (α := List Int) (r := r_r0.2.1) (x := r0.left) h_r0.2.1|>.immP (α := List Int) (r := r_r0.2.2.1) (x := r0.cost) h_r0.2.2.1|>.immP (α := List (List Int)) (r := r_r0.2.2.2.1) (x := r0.from_) h_r0.2.2.2.1|>.immP (α := List Int) (r := r_r0.2.2.2.2.1) (x := r0.excess) h_r0.2.2.2.2.1|>.immP (α := List Int) (r := r_r0.2.2.2.2.2) (x := r0.price) h_r0.2.2.2.2.2) rfl ?_
  unfold flow_residual_feasible_m at hM
  refine cw_seq fun K1 hK1 => ?_
  refine cw_region ?_
  refine ow_ev ev_assign ?_
  refine ow_nil (hK1 _ _ ?_); clear hK1
  refine cw_seq fun K2 hK2 => ?_
  refine cw_seq fun K3 hK3 => ?_
  refine cw_region ?_
  refine ow_ev ev_move ?_
  refine ow_ev ev_nilcheck ?_
  refine ow_ev (ev_field_addr 1) ?_
  refine ow_ev (ev_rload_own (b := b_r0)) ?_
  refine ow_ev ev_assign ?_
  refine ow_nil (hK3 _ _ ?_); clear hK3
  refine cw_block ?_
  refine cw_loop (γ := Nat × Int × Unit) (env := fun (_, i_1, _) => [(0, .v (.pointer (some ⟨b_r0, 0, none⟩))), (3, .v (.int .i64 i_1))]) (mem := fun (_, i_1, _) => [imm (α := (List Int)) r_r0.1 r0.to, imm (α := (List Int)) r_r0.2.1 r0.left, imm (α := (List Int)) r_r0.2.2.1 r0.cost, imm (α := (List (List Int))) r_r0.2.2.2.1 r0.from_, imm (α := (List Int)) r_r0.2.2.2.2.1 r0.excess, imm (α := (List Int)) r_r0.2.2.2.2.2 r0.price, rbox b_r0 91 [.int .i64 r0.nodes, .int .i64 r0.arcs, .slice r_r0.1.a r0.to.length r_r0.1.cap, .slice r_r0.2.1.a r0.left.length r_r0.2.1.cap, .slice r_r0.2.2.1.a r0.cost.length r_r0.2.2.1.cap, .slice r_r0.2.2.2.1.a r0.from_.length r_r0.2.2.2.1.cap, .slice r_r0.2.2.2.2.1.a r0.excess.length r_r0.2.2.2.2.1.cap, .slice r_r0.2.2.2.2.2.a r0.price.length r_r0.2.2.2.2.2.cap]]) (R := fun g => iter (flow_residual_feasible_b1 r0) g.1 g.2.1 = some y) (μ := fun g => g.1) (FUEL, r0.arcs, ()) hM ⟨rfl, rfl, trivial⟩ (fun w hm => hm.reord) ?_
  clear hM
  intro g hM KL1 hL1
  obtain ⟨nn1, i_1, ⟨⟩⟩ := g
  dsimp only at hM ⊢
  obtain ⟨nn1, cont1, rfl, hcont1, hM⟩ := iter_open' hM
  dsimp only [flow_residual_feasible_b1] at hM
  refine cw_seq fun K4 hK4 => ?_
  refine cw_seq fun K5 hK5 => ?_
  refine cw_region ?_
  refine ow_ev ev_move ?_
  refine ow_ev ev_move ?_
  refine ow_ev ev_nilcheck ?_
  refine ow_ev (ev_field_addr 2) ?_
  refine ow_ev (ev_rload_own (b := b_r0)) ?_
  refine ow_ev ev_len ?_
  obtain ⟨hI1, hM⟩ := chk_some hM
  refine ow_ev (ev_quo' (hr := fun hg => quo_ok hI1)) ?_
  refine ow_ev ev_lss ?_
  refine ow_nil (hK5 _ _ ?_); clear hK5
  refine cw_cond rfl (fun hc2 => ?_) (fun hc2 => ?_)
  ·
    replace hM := (ite_t hc2).symm.trans hM
    refine cw_skip (hK4 _ _ ?_); clear hK4
    refine cw_seq fun K6 hK6 => ?_
    refine cw_block ?_
    refine cw_seq fun K7 hK7 => ?_
    refine cw_region ?_
    refine ow_ev ev_move ?_
    refine ow_ev ev_nilcheck ?_
    refine ow_ev (ev_field_addr 3) ?_
    refine ow_ev (ev_rload_own (b := b_r0)) ?_
    refine ow_ev ev_move ?_
    obtain ⟨hI3, hM⟩ := chk_some hM
    refine ow_ev (ev_mul (hr := fun hg => i64b_I64 hI3)) ?_
    obtain ⟨hI4, hM⟩ := chk_some hM
    refine ow_ev (ev_add (hr := fun hg => i64b_I64 hI4)) ?_
    obtain ⟨x5, hx6, hM⟩ := bind_some hM
    refine ow_ev (ev_idx (xs := r0.left) 1 (Kn.imm (α := List Int) (r := r_r0.2.1) (x := r0.left) (by repeat (first | exact Has.head | apply Has.tail))) (fun hg => let h := idx_some hx6; ⟨h.1, h.2.1⟩)) ?_
    refine ow_ev (ev_ld (i := ((2 * i_1) + 1)) (xs := r0.left) (y := x5) 0 (Kn.imm (α := List Int) (r := r_r0.2.1) (x := r0.left) (by repeat (first | exact Has.head | apply Has.tail))) (fun _ => hx6)) ?_
    refine ow_ev ev_gtr ?_
    refine ow_nil (hK7 _ _ ?_); clear hK7
    refine cw_cond rfl (fun hc7 => ?_) (fun hc7 => ?_)
    ·
      replace hM := (ite_t hc7).symm.trans hM
      refine cw_seq fun K8 hK8 => ?_
      refine cw_region ?_
      refine ow_ev ev_assign ?_
      refine ow_nil (hK8 _ _ ?_); clear hK8
      obtain rfl := some_inj hM
      refine cw_ret (kw_retc1 (fun w hm => ret_of hm rfl))
    ·
      replace hM := (ite_f hc7).symm.trans hM
      refine cw_skip (hK6 _ _ ?_); clear hK6
      refine cw_region ?_
      refine ow_ev ev_move ?_
      obtain ⟨hI8, hM⟩ := chk_some hM
      refine ow_ev (ev_add (hr := fun hg => i64b_I64 hI8)) ?_
      refine ow_ev ev_assign ?_
      refine ow_nil (hL1 (nn1, (i_1 + 1), ()) _ _ (eqc hcont1 hM) (Nat.lt_succ_self _) ⟨rfl, rfl, trivial⟩ (fun w hm => hm.reord))
  ·
    replace hM := (ite_f hc2).symm.trans hM
    refine cw_exit (hK2 _ _ ?_); clear hK2
    dsimp only [flow_residual_feasible_k1] at hM
    refine cw_seq fun K9 hK9 => ?_
    refine cw_region ?_
    refine ow_ev ev_assign ?_
    refine ow_nil (hK9 _ _ ?_); clear hK9
    obtain rfl := some_inj hM
    refine cw_ret (kw_retc1 (fun w hm => ret_of hm rfl))

def flow_residual_prices_k2 (t19_2 : Nat) (cont2 : ((List Int) × Bool × Nat) → Option (List Int)) : ((List Int) × Bool) → Option (List Int) := fun (lprice_j2, changed_j2) =>
  chk (i64b ((t19_2 : Int) + 1)) <|
  cont2 (lprice_j2, changed_j2, t19_2 + 1)
def flow_residual_prices_b2 (r0 : Flow_residual) (cont1 : ((List Int) × Bool) → Option (List Int)) (cont2 : ((List Int) × Bool × Nat) → Option (List Int)) : ((List Int) × Bool × Nat) → Option (List Int) := fun (lprice_2, changed_2, t19_2) =>
  if decide ((t19_2 : Int) < (2 * r0.arcs)) then
    ((idx r0.to (bitsXor .i64 (t19_2 : Int) 1)).bind fun x8 =>
    (idx r0.to (t19_2 : Int)).bind fun x10 =>
    (idx r0.left (t19_2 : Int)).bind fun x12 =>
    (whn (decide (0 < x12)) default (idx lprice_2 x8)).bind fun x14 =>
    (whn (decide (0 < x12)) default (idx r0.cost (t19_2 : Int))).bind fun x16 =>
    chk (!(decide (0 < x12)) || i64b (x14 + x16)) <|
    (whn (decide (0 < x12)) default (idx lprice_2 x10)).bind fun x19 =>
    if (decide (0 < x12) && decide ((x14 + x16) < x19)) then
      ((idx lprice_2 x8).bind fun x22 =>
      (idx r0.cost (t19_2 : Int)).bind fun x24 =>
      chk (i64b (x22 + x24)) <|
      (idx lprice_2 x10).bind fun x27 =>
      flow_residual_prices_k2 t19_2 cont2 ((lprice_2.set x10.toNat (x22 + x24)), true))
    else
      (flow_residual_prices_k2 t19_2 cont2 (lprice_2, changed_2)))
  else
    (cont1 (lprice_2, changed_2))
def flow_residual_prices_k1 (lprice_1 : List Int) : Unit → Option (List Int) := fun _ =>
  some lprice_1
def flow_residual_prices_b1 (r0 : Flow_residual) (cont1 : ((List Int) × Bool) → Option (List Int)) : ((List Int) × Bool) → Option (List Int) := fun (lprice_1, changed_1) =>
  if changed_1 then
    (chk (i64b (2 * r0.arcs)) <|
    iter (flow_residual_prices_b2 r0 cont1) FUEL (lprice_1, false, 0))
  else
    (flow_residual_prices_k1 lprice_1 ())
def flow_residual_prices_m (r0 : Flow_residual) : Option (List Int) :=
  (mk (α := Int) 0 r0.nodes).bind fun m1 =>
  iter (flow_residual_prices_b1 r0) FUEL (m1, true)
theorem flow_residual_prices_spec (S : Soup) (w : World) (b_r0 : Nat) (r0 : Flow_residual) (r_r0 : GoRep.R Flow_residual) (y : (List Int)) (hM : flow_residual_prices_m r0 = some y) (hS : ∀ k, S k → k < w.heap.size) (hb_r0 : S b_r0 ∧ w.heap[b_r0]? = some (.cells [.int .i64 r0.nodes, .int .i64 r0.arcs, .slice r_r0.1.a r0.to.length r_r0.1.cap, .slice r_r0.2.1.a r0.left.length r_r0.2.1.cap, .slice r_r0.2.2.1.a r0.cost.length r_r0.2.2.1.cap, .slice r_r0.2.2.2.1.a r0.from_.length r_r0.2.2.2.1.cap, .slice r_r0.2.2.2.2.1.a r0.excess.length r_r0.2.2.2.2.1.cap, .slice r_r0.2.2.2.2.2.a r0.price.length r_r0.2.2.2.2.2.cap].toArray 91 (0, 0))) (h_r0 : GoRep.ok S w r_r0 r0) :
    Calls Try.prog 57 #[.pointer (some ⟨b_r0, 0, none⟩)] w (Post (β := (GoRep.R (List Int))) S [] (fun g => .slice g.a y.length g.cap) (fun g => [trow 3 g y]) w) := by
  refine calls_cw (args := [_]) Try.func57 rfl ((pre_nil hS).start |>.rboxP hb_r0|>.immP (α := List Int) (r := r_r0.1) (x := r0.to) h_r0.1|>.immP (α := List Int) (r := r_r0.2.1) (x := r0.left) h_r0.2.1|>.immP (α := List Int) (r := r_r0.2.2.1) (x := r0.cost) h_r0.2.2.1|>.immP (α := List (List Int)) (r := r_r0.2.2.2.1) (x := r0.from_) h_r0.2.2.2.1|>.immP (α := List Int) (r := r_r0.2.2.2.2.1) (x := r0.excess) h_r0.2.2.2.2.1|>.immP (α := List Int) (r := r_r0.2.2.2.2.2) (x := r0.price) h_r0.2.2.2.2.2) rfl ?_
  unfold flow_residual_prices_m at hM
  refine cw_seq fun K1 hK1 => ?_
  refine cw_region ?_
  refine ow_ev ev_assign ?_
  refine ow_nil (hK1 _ _ ?_); clear hK1
  refine cw_seq fun K2 hK2 => ?_
  refine cw_region ?_
  refine ow_ev ev_move ?_
  refine ow_ev ev_nilcheck ?_
  refine ow_ev (ev_field_addr 0) ?_
  refine ow_ev (ev_rload_own (b := b_r0)) ?_
  obtain ⟨m1, hm2, hM⟩ := bind_some hM
  refine ow_cons (st_make (α := Int) (e := 3) 0 () hm2 (fun _ _ => trivial) (fun r3 hr3 => ?_))
  refine ow_ev ev_assign ?_
  refine ow_nil (hK2 _ _ ?_); clear hK2
  refine cw_seq fun K3 hK3 => ?_
  refine cw_seq fun K4 hK4 => ?_
  refine cw_region ?_
  refine ow_ev ev_assign ?_
  refine ow_nil (hK4 _ _ ?_); clear hK4
  refine cw_block ?_
  refine cw_loop (γ := Nat × ((List Int) × Bool) × Unit) (env := fun (_, (lprice_1, changed_1), _) => [(0, .v (.pointer (some ⟨b_r0, 0, none⟩))), (3, .v (.slice r3.a lprice_1.length r3.cap)), (4, .v (.bool changed_1))]) (mem := fun (_, (lprice_1, changed_1), _) => [imm (α := (List Int)) r_r0.1 r0.to, imm (α := (List Int)) r_r0.2.1 r0.left, imm (α := (List Int)) r_r0.2.2.1 r0.cost, imm (α := (List (List Int))) r_r0.2.2.2.1 r0.from_, imm (α := (List Int)) r_r0.2.2.2.2.1 r0.excess, imm (α := (List Int)) r_r0.2.2.2.2.2 r0.price, rbox b_r0 91 [.int .i64 r0.nodes, .int .i64 r0.arcs, .slice r_r0.1.a r0.to.length r_r0.1.cap, .slice r_r0.2.1.a r0.left.length r_r0.2.1.cap, .slice r_r0.2.2.1.a r0.cost.length r_r0.2.2.1.cap, .slice r_r0.2.2.2.1.a r0.from_.length r_r0.2.2.2.1.cap, .slice r_r0.2.2.2.2.1.a r0.excess.length r_r0.2.2.2.2.1.cap, .slice r_r0.2.2.2.2.2.a r0.price.length r_r0.2.2.2.2.2.cap], trow 3 r3 lprice_1]) (R := fun g => iter (flow_residual_prices_b1 r0) g.1 g.2.1 = some y) (μ := fun g => g.1) (FUEL, (m1, true), ()) hM ⟨rfl, rfl, rfl, trivial⟩ (fun w hm => hm.reord) ?_
  clear hM
  intro g hM KL1 hL1
  obtain ⟨nn1, ⟨lprice_1, changed_1⟩, ⟨⟩⟩ := g
  dsimp only at hM ⊢
  obtain ⟨nn1, cont1, rfl, hcont1, hM⟩ := iter_open' hM
  dsimp only [flow_residual_prices_b1] at hM
  refine cw_seq fun K5 hK5 => ?_
  refine cw_seq fun K6 hK6 => ?_
  refine cw_region ?_
  refine ow_ev ev_move ?_
  refine ow_nil (hK6 _ _ ?_); clear hK6
  refine cw_cond rfl (fun hc4 => ?_) (fun hc4 => ?_)
  ·
    replace hM := (ite_t hc4).symm.trans hM
    refine cw_skip (hK5 _ _ ?_); clear hK5
    refine cw_block ?_
    refine cw_seq fun K7 hK7 => ?_
    refine cw_region ?_
    refine ow_ev ev_assign ?_
    refine ow_nil (hK7 _ _ ?_); clear hK7
    refine cw_seq fun K8 hK8 => ?_
    refine cw_region ?_
    refine ow_ev ev_move ?_
    refine ow_ev ev_nilcheck ?_
    refine ow_ev (ev_field_addr 1) ?_
    refine ow_ev (ev_rload_own (b := b_r0)) ?_
    obtain ⟨hI5, hM⟩ := chk_some hM
    refine ow_ev (ev_mul (hr := fun hg => i64b_I64 hI5)) ?_
    refine ow_ev ev_move ?_
    refine ow_nil (hK8 _ _ ?_); clear hK8
    refine cw_block ?_
    refine cw_loop (γ := Nat × ((List Int) × Bool × Nat) × Unit) (env := fun (_, (lprice_2, changed_2, t19_2), _) => [(0, .v (.pointer (some ⟨b_r0, 0, none⟩))), (3, .v (.slice r3.a lprice_2.length r3.cap)), (4, .v (.bool changed_2)), (18, .v (.int .i64 (2 * r0.arcs))), (19, .v (.int .i64 (t19_2 : Int)))]) (mem := fun (_, (lprice_2, changed_2, t19_2), _) => [imm (α := (List Int)) r_r0.1 r0.to, imm (α := (List Int)) r_r0.2.1 r0.left, imm (α := (List Int)) r_r0.2.2.1 r0.cost, imm (α := (List (List Int))) r_r0.2.2.2.1 r0.from_, imm (α := (List Int)) r_r0.2.2.2.2.1 r0.excess, imm (α := (List Int)) r_r0.2.2.2.2.2 r0.price, rbox b_r0 91 [.int .i64 r0.nodes, .int .i64 r0.arcs, .slice r_r0.1.a r0.to.length r_r0.1.cap, .slice r_r0.2.1.a r0.left.length r_r0.2.1.cap, .slice r_r0.2.2.1.a r0.cost.length r_r0.2.2.1.cap, .slice r_r0.2.2.2.1.a r0.from_.length r_r0.2.2.2.1.cap, .slice r_r0.2.2.2.2.1.a r0.excess.length r_r0.2.2.2.2.1.cap, .slice r_r0.2.2.2.2.2.a r0.price.length r_r0.2.2.2.2.2.cap], trow 3 r3 lprice_2]) (R := fun g => iter (flow_residual_prices_b2 r0 cont1) g.1 g.2.1 = some y) (μ := fun g => g.1) (FUEL, (lprice_1, false, 0), ()) hM ⟨rfl, rfl, rfl, rfl, rfl, trivial⟩ (fun w hm => hm.reord) ?_
    clear hM
    intro g hM KL2 hL2
    obtain ⟨nn2, ⟨lprice_2, changed_2, t19_2⟩, ⟨⟩⟩ := g
    dsimp only at hM ⊢
    obtain ⟨nn2, cont2, rfl, hcont2, hM⟩ := iter_open' hM
    dsimp only [flow_residual_prices_b2] at hM
    refine cw_seq fun K9 hK9 => ?_
    refine cw_region ?_
    refine ow_ev ev_lss ?_
    refine ow_nil (hK9 _ _ ?_); clear hK9
    refine cw_seq fun K10 hK10 => ?_
    refine cw_cond rfl (fun hc6 => ?_) (fun hc6 => ?_)
    ·
      replace hM := (ite_t hc6).symm.trans hM
      refine cw_skip (hK10 _ _ ?_); clear hK10
      refine cw_cut (γ := ((List Int) × Bool) × Unit) (env := fun ((lprice_j2, changed_j2), _) => [(0, .v (.pointer (some ⟨b_r0, 0, none⟩))), (3, .v (.slice r3.a lprice_j2.length r3.cap)), (4, .v (.bool changed_j2)), (18, .v (.int .i64 (2 * r0.arcs))), (19, .v (.int .i64 (t19_2 : Int)))]) (mem := fun ((lprice_j2, changed_j2), _) => [imm (α := (List Int)) r_r0.1 r0.to, imm (α := (List Int)) r_r0.2.1 r0.left, imm (α := (List Int)) r_r0.2.2.1 r0.cost, imm (α := (List (List Int))) r_r0.2.2.2.1 r0.from_, imm (α := (List Int)) r_r0.2.2.2.2.1 r0.excess, imm (α := (List Int)) r_r0.2.2.2.2.2 r0.price, rbox b_r0 91 [.int .i64 r0.nodes, .int .i64 r0.arcs, .slice r_r0.1.a r0.to.length r_r0.1.cap, .slice r_r0.2.1.a r0.left.length r_r0.2.1.cap, .slice r_r0.2.2.1.a r0.cost.length r_r0.2.2.1.cap, .slice r_r0.2.2.2.1.a r0.from_.length r_r0.2.2.2.1.cap, .slice r_r0.2.2.2.2.1.a r0.excess.length r_r0.2.2.2.2.1.cap, .slice r_r0.2.2.2.2.2.a r0.price.length r_r0.2.2.2.2.2.cap], trow 3 r3 lprice_j2]) (R := fun g => flow_residual_prices_k2 t19_2 cont2 g.1 = some y) ?_ ?_
      · intro KJ2 hJ2
        refine cw_block ?_
        refine cw_seq fun K11 hK11 => ?_
        refine cw_region ?_
        refine ow_ev ev_move ?_
        refine ow_ev ev_assign ?_
        refine ow_nil (hK11 _ _ ?_); clear hK11
        refine cw_seq fun K12 hK12 => ?_
        refine cw_region_any _ (List.Sublist.refl _) ?_
        refine aw_ev 0 rfl ev_move ?_
        refine aw_ev 1 rfl ev_nilcheck ?_
        refine aw_ev 2 rfl (ev_field_addr 2) ?_
        refine aw_ev 3 rfl (ev_rload_own (b := b_r0)) ?_
        refine aw_ev 4 rfl ev_move ?_
        refine aw_ev 5 rfl ev_xor ?_
        obtain ⟨x8, hx9, hM⟩ := bind_some hM
        refine aw_ev 6 rfl (ev_idx (xs := r0.to) 1 (Kn.imm (α := List Int) (r := r_r0.1) (x := r0.to) (by repeat (first | exact Has.head | apply Has.tail))) (fun hg => let h := idx_some hx9; ⟨h.1, h.2.1⟩)) ?_
        refine aw_ev 7 rfl (ev_ld (i := (bitsXor .i64 (t19_2 : Int) 1)) (xs := r0.to) (y := x8) 0 (Kn.imm (α := List Int) (r := r_r0.1) (x := r0.to) (by repeat (first | exact Has.head | apply Has.tail))) (fun _ => hx9)) ?_
        refine aw_ev 8 rfl ev_move ?_
        refine aw_ev 9 rfl ev_nilcheck ?_
        refine aw_ev 10 rfl (ev_field_addr 2) ?_
        refine aw_ev 11 rfl (ev_rload_own (b := b_r0)) ?_
        refine aw_ev 12 rfl ev_move ?_
        obtain ⟨x10, hx11, hM⟩ := bind_some hM
        refine aw_ev 13 rfl (ev_idx (xs := r0.to) 1 (Kn.imm (α := List Int) (r := r_r0.1) (x := r0.to) (by repeat (first | exact Has.head | apply Has.tail))) (fun hg => let h := idx_some hx11; ⟨h.1, h.2.1⟩)) ?_
        refine aw_ev 14 rfl (ev_ld (i := (t19_2 : Int)) (xs := r0.to) (y := x10) 0 (Kn.imm (α := List Int) (r := r_r0.1) (x := r0.to) (by repeat (first | exact Has.head | apply Has.tail))) (fun _ => hx11)) ?_
        refine aw_ev 15 rfl ev_assign ?_
        refine aw_ev 16 rfl ev_assign ?_
        refine aw_done (hK12 _ _ ?_); clear hK12
        refine cw_seq fun K13 hK13 => ?_
        refine cw_region_any _ (List.Sublist.refl _) ?_
        refine aw_ev 0 rfl ev_move ?_
        refine aw_ev 1 rfl ev_nilcheck ?_
        refine aw_ev 2 rfl (ev_field_addr 3) ?_
        refine aw_ev 3 rfl (ev_rload_own (b := b_r0)) ?_
        refine aw_ev 4 rfl ev_move ?_
        obtain ⟨x12, hx13, hM⟩ := bind_some hM
        refine aw_ev 5 rfl (ev_idx (xs := r0.left) 1 (Kn.imm (α := List Int) (r := r_r0.2.1) (x := r0.left) (by repeat (first | exact Has.head | apply Has.tail))) (fun hg => let h := idx_some hx13; ⟨h.1, h.2.1⟩)) ?_
        refine aw_ev 6 rfl (ev_ld (i := (t19_2 : Int)) (xs := r0.left) (y := x12) 0 (Kn.imm (α := List Int) (r := r_r0.2.1) (x := r0.left) (by repeat (first | exact Has.head | apply Has.tail))) (fun _ => hx13)) ?_
        refine aw_ev 7 rfl ev_gtr ?_
        refine aw_ev 8 rfl ev_move ?_
        refine aw_evg 9 rfl rfl ev_move ?_
        refine aw_evg 10 rfl rfl ev_move ?_
        obtain ⟨x14, hx15, hM⟩ := bind_some hM
        refine aw_evg 11 rfl rfl (ev_idx (xs := lprice_2) 1 (Kn.trow (e := 3) (r := r3) (by repeat (first | exact Has.head | apply Has.tail))) (fun hg => let h := idx_some (whn_some hx15 hg); ⟨h.1, h.2.1⟩)) ?_
        refine aw_evg 12 rfl rfl (ev_ld (i := x8) (xs := lprice_2) (y := x14) 0 (Kn.trow (e := 3) (r := r3) (by repeat (first | exact Has.head | apply Has.tail))) (fun hg => whn_some hx15 hg)) ?_
        refine aw_evg 13 rfl rfl ev_move ?_
        refine aw_evg 14 rfl rfl ev_nilcheck ?_
        refine aw_evg 15 rfl rfl (ev_field_addr 4) ?_
        refine aw_evg 16 rfl rfl (ev_rload_own (b := b_r0)) ?_
        refine aw_evg 17 rfl rfl ev_move ?_
        obtain ⟨x16, hx17, hM⟩ := bind_some hM
        refine aw_evg 18 rfl rfl (ev_idx (xs := r0.cost) 1 (Kn.imm (α := List Int) (r := r_r0.2.2.1) (x := r0.cost) (by repeat (first | exact Has.head | apply Has.tail))) (fun hg => let h := idx_some (whn_some hx17 hg); ⟨h.1, h.2.1⟩)) ?_
        refine aw_evg 19 rfl rfl (ev_ld (i := (t19_2 : Int)) (xs := r0.cost) (y := x16) 0 (Kn.imm (α := List Int) (r := r_r0.2.2.1) (x := r0.cost) (by repeat (first | exact Has.head | apply Has.tail))) (fun hg => whn_some hx17 hg)) ?_
        obtain ⟨hI18, hM⟩ := chk_some hM
        refine aw_evg 20 rfl rfl (ev_add (hr := fun hg => i64b_I64 (gor hI18 hg))) ?_
        refine aw_evg 21 rfl rfl ev_move ?_
        refine aw_evg 22 rfl rfl ev_move ?_
        obtain ⟨x19, hx20, hM⟩ := bind_some hM
        refine aw_evg 23 rfl rfl (ev_idx (xs := lprice_2) 1 (Kn.trow (e := 3) (r := r3) (by repeat (first | exact Has.head | apply Has.tail))) (fun hg => let h := idx_some (whn_some hx20 hg); ⟨h.1, h.2.1⟩)) ?_
        refine aw_evg 24 rfl rfl (ev_ld (i := x10) (xs := lprice_2) (y := x19) 0 (Kn.trow (e := 3) (r := r3) (by repeat (first | exact Has.head | apply Has.tail))) (fun hg => whn_some hx20 hg)) ?_
        refine aw_evg 25 rfl rfl ev_lss ?_
        refine aw_ev 26 rfl ev_and ?_
        refine aw_done (hK13 _ _ ?_); clear hK13
        refine cw_cond rfl (fun hc21 => ?_) (fun hc21 => ?_)
        ·
          replace hM := (ite_t hc21).symm.trans hM
          refine cw_seq fun K14 hK14 => ?_
          refine cw_region_z [imm (α := (List Int)) r_r0.1 r0.to, imm (α := (List Int)) r_r0.2.1 r0.left, imm (α := (List Int)) r_r0.2.2.1 r0.cost, imm (α := (List (List Int))) r_r0.2.2.2.1 r0.from_, imm (α := (List Int)) r_r0.2.2.2.2.1 r0.excess, imm (α := (List Int)) r_r0.2.2.2.2.2 r0.price, rbox b_r0 91 [.int .i64 r0.nodes, .int .i64 r0.arcs, .slice r_r0.1.a r0.to.length r_r0.1.cap, .slice r_r0.2.1.a r0.left.length r_r0.2.1.cap, .slice r_r0.2.2.1.a r0.cost.length r_r0.2.2.1.cap, .slice r_r0.2.2.2.1.a r0.from_.length r_r0.2.2.2.1.cap, .slice r_r0.2.2.2.2.1.a r0.excess.length r_r0.2.2.2.2.1.cap, .slice r_r0.2.2.2.2.2.a r0.price.length r_r0.2.2.2.2.2.cap], trow 3 r3 lprice_2] 15 ?_
          refine az_ev 0 rfl ev_move ?_
          refine az_ev 1 rfl ev_move ?_
          refine az_ev 2 rfl ev_move ?_
          refine az_ev 3 rfl ev_move ?_
          obtain ⟨x22, hx23, hM⟩ := bind_some hM
          refine az_ev 4 rfl (ev_idx (xs := lprice_2) 1 (Kn.trow (e := 3) (r := r3) (by repeat (first | exact Has.head | apply Has.tail))) (fun hg => let h := idx_some hx23; ⟨h.1, h.2.1⟩)) ?_
          refine az_ev 5 rfl (ev_ld (i := x8) (xs := lprice_2) (y := x22) 0 (Kn.trow (e := 3) (r := r3) (by repeat (first | exact Has.head | apply Has.tail))) (fun _ => hx23)) ?_
          refine az_ev 6 rfl ev_move ?_
          refine az_ev 7 rfl ev_nilcheck ?_
          refine az_ev 8 rfl (ev_field_addr 4) ?_
          refine az_ev 9 rfl (ev_rload_own (b := b_r0)) ?_
          refine az_ev 10 rfl ev_move ?_
          obtain ⟨x24, hx25, hM⟩ := bind_some hM
          refine az_ev 11 rfl (ev_idx (xs := r0.cost) 1 (Kn.imm (α := List Int) (r := r_r0.2.2.1) (x := r0.cost) (by repeat (first | exact Has.head | apply Has.tail))) (fun hg => let h := idx_some hx25; ⟨h.1, h.2.1⟩)) ?_
          refine az_ev 12 rfl (ev_ld (i := (t19_2 : Int)) (xs := r0.cost) (y := x24) 0 (Kn.imm (α := List Int) (r := r_r0.2.2.1) (x := r0.cost) (by repeat (first | exact Has.head | apply Has.tail))) (fun _ => hx25)) ?_
          obtain ⟨hI26, hM⟩ := chk_some hM
          refine az_ev 13 rfl (ev_add (hr := fun hg => i64b_I64 hI26)) ?_
          obtain ⟨x27, hx28, hM⟩ := bind_some hM
          refine az_ev 14 rfl (ev_idx (xs := lprice_2) 1 (Kn.trow (e := 3) (r := r3) (by repeat (first | exact Has.head | apply Has.tail))) (fun hg => let h := idx_some hx28; ⟨h.1, h.2.1⟩)) ?_
          refine az_last rfl (st_set (r := r3) (i := x10) (xs := lprice_2) (u := x27) (vs := [.int .i64 (x22 + x24)]) 0 (x22 + x24) hx28 rfl (fun _ _ h => h) (by repeat (first | exact Upd.head | apply Upd.tail)) ?_)
          refine az_done (hK14 _ _ ?_); clear hK14
          refine cw_region ?_
          refine ow_ev ev_assign ?_
          refine ow_nil (hJ2 (((lprice_2.set x10.toNat (x22 + x24)), true), ()) _ _ hM ⟨rfl, (by simp only [List.length_set]; rfl), rfl, rfl, rfl, trivial⟩ (fun w hm => hm.reord))
        ·
          replace hM := (ite_f hc21).symm.trans hM
          refine cw_skip (hJ2 ((lprice_2, changed_2), ()) _ _ hM ⟨rfl, rfl, rfl, rfl, rfl, trivial⟩ (fun w hm => hm.reord))
      ·
        clear hM
        intro g hM
        obtain ⟨⟨lprice_j2, changed_j2⟩, ⟨⟩⟩ := g
        dsimp only at hM ⊢
        dsimp only [flow_residual_prices_k2] at hM
        refine cw_region ?_
        obtain ⟨hI7, hM⟩ := chk_some hM
        refine ow_ev (ev_add (hr := fun hg => i64b_I64 hI7)) ?_
        refine ow_ev ev_move ?_
        refine ow_nil (hL2 (nn2, (lprice_j2, changed_j2, t19_2 + 1), ()) _ _ (eqc hcont2 hM) (Nat.lt_succ_self _) ⟨rfl, rfl, rfl, rfl, rfl, trivial⟩ (fun w hm => hm.reord))
    ·
      replace hM := (ite_f hc6).symm.trans hM
      refine cw_exit (hL1 (nn1, (lprice_2, changed_2), ()) _ _ (eqc hcont1 hM) (Nat.lt_succ_self _) ⟨rfl, rfl, rfl, trivial⟩ (fun w hm => hm.reord))
  ·
    replace hM := (ite_f hc4).symm.trans hM
    refine cw_exit (hK3 _ _ ?_); clear hK3
    dsimp only [flow_residual_prices_k1] at hM
    refine cw_seq fun K15 hK15 => ?_
    refine cw_region ?_
    refine ow_ev ev_move ?_
    refine ow_ev ev_assign ?_
    refine ow_nil (hK15 _ _ ?_); clear hK15
    obtain rfl := some_inj hM
    refine cw_ret (kw_retc1 (fun w hm => post_of r3 hm rfl))

end Go.Proofs.Ytedocibniankjaa

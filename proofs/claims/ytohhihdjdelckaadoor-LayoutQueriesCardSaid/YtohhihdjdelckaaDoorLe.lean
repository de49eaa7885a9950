/- Models of functions, and that the code computes them. -/
import Derived.Test.YtohhihdjdelckaaDoorLa
set_option linter.all false
namespace Go.Proofs.YtohhihdjdelckaaDoor
open Go.Dc Go.RowKit
set_option maxRecDepth 10000
def law4_awake_m  : Option Bool :=
  (layout_Check_m (Layout.mk ([] : List Str) ([] : List Str) ([(Section.mk (⟨[88]⟩ : Str) 2 1000 0 (-1))] : List Section) ([] : List Link))).bind fun y6 =>
  (whn (decide (y6 = 0)) default (layout_Check_m (Layout.mk ([] : List Str) ([] : List Str) ([] : List Section) ([] : List Link)))).bind fun y12 =>
  (whn (decide (y6 = 0) && decide (y12 = 1)) default (layout_Has_m (Layout.mk ([] : List Str) ([] : List Str) ([(Section.mk (⟨[88]⟩ : Str) 2 1000 0 (-1))] : List Section) ([] : List Link)) (Step.mk 0 0))).bind fun y17 =>
  some ((decide (y6 = 0) && decide (y12 = 1)) && y17)
theorem law4_awake_spec (S : Soup) (w : World)  (y : Bool) (hM : law4_awake_m  = some y) (hS : ∀ k, S k → k < w.heap.size)  :
    Calls Tryd.prog 10 #[] w (Ret w (.bool y)) := by
  refine calls_cw (args := []) Tryd.func10 rfl ((pre_nil hS).start) rfl ?_
  unfold law4_awake_m at hM
  refine cw_seq fun K1 hK1 => ?_
  refine cw_region ?_
  refine ow_ev ev_assign ?_
  refine ow_nil (hK1 _ _ ?_); clear hK1
  refine cw_seq fun K2 hK2 => ?_
  refine cw_region ?_
  refine ow_ev (ev_build [.string (⟨[88]⟩ : Str).ba, .int .i64 2, .int .i64 1000, .int .i64 0, .int .i64 (-1)]) ?_
  refine ow_cons (st_bslice (α := Section) 57 (fun _ => ()) ([(Section.mk (⟨[88]⟩ : Str) 2 1000 0 (-1))] : List Section) (OkL.flat (fun _ _ _ _ => trivial)) (fun r1 => ?_))
  refine ow_ev (ev_build [.slice none 0 0, .slice none 0 0, .slice r1.a (([(Section.mk (⟨[88]⟩ : Str) 2 1000 0 (-1))] : List Section).length) r1.cap, .slice none 0 0]) ?_
  refine ow_cons (st_alloc rfl (k := fun b2 => ?_))
  refine ow_cons (st_store_all (b := b2) (vs := [.slice none 0 0, .slice none 0 0, .slice r1.a (([(Section.mk (⟨[88]⟩ : Str) 2 1000 0 (-1))] : List Section).length) r1.cap, .slice none 0 0]) (k := ?_))
  refine ow_nil (hK2 _ _ ?_); clear hK2
  refine cw_seq fun K3 hK3 => ?_
  refine cw_region ?_
  refine ow_ev (ev_load_all (b := b2)) ?_
  refine ow_imp (fun w hm => hm.row_nil (α := Str) 9 (fun _ => ())) ?_
  refine ow_imp (fun w hm => hm.row_nil (α := Str) 9 (fun _ => ())) ?_
  refine ow_imp (fun w hm => hm.row_nil (α := Link) 72 (fun _ => ())) ?_
  obtain ⟨y6, hy7, hM⟩ := bind_some hM
  refine ow_cons (st_callv (fun w hm => let ⟨S, hs⟩ := hm; layout_Check_spec _ w (Layout.mk ([] : List Str) ([] : List Str) ([(Section.mk (⟨[88]⟩ : Str) 2 1000 0 (-1))] : List Section) ([] : List Link)) ((⟨none, 0, (fun _ => ())⟩ : SR (GoRep.R Str) ), (⟨none, 0, (fun _ => ())⟩ : SR (GoRep.R Str)  ), r1, (⟨none, 0, (fun _ => ())⟩ : SR (GoRep.R Link)   )) y6 hy7 (lend_lt hs) ⟨(Kn.lend (Kn.trow (e := 9) (r := (⟨none, 0, (fun _ => ())⟩ : SR (GoRep.R Str) )) (by repeat (first | exact Has.head | apply Has.tail))) hs), (Kn.lend (Kn.trow (e := 9) (r := (⟨none, 0, (fun _ => ())⟩ : SR (GoRep.R Str)  )) (by repeat (first | exact Has.head | apply Has.tail))) hs), (Kn.lend (Kn.trow (e := 57) (r := r1) (by repeat (first | exact Has.head | apply Has.tail))) hs), (Kn.lend (Kn.trow (e := 72) (r := (⟨none, 0, (fun _ => ())⟩ : SR (GoRep.R Link)   )) (by repeat (first | exact Has.head | apply Has.tail))) hs)⟩) ?_)
  refine ow_ev ev_eql ?_
  refine ow_ev ev_move ?_
  refine ow_evg rfl (ev_build [.slice none 0 0, .slice none 0 0, .slice none 0 0, .slice none 0 0]) ?_
  refine ow_imp (fun w hm => hm.row_nil (α := Str) 9 (fun _ => ())) ?_
  refine ow_imp (fun w hm => hm.row_nil (α := Str) 9 (fun _ => ())) ?_
  refine ow_imp (fun w hm => hm.row_nil (α := Section) 57 (fun _ => ())) ?_
  refine ow_imp (fun w hm => hm.row_nil (α := Link) 72 (fun _ => ())) ?_
  obtain ⟨y12, hy13, hM⟩ := bind_some hM
  refine ow_callg rfl (fun hg w hm => let ⟨S, hs⟩ := hm; layout_Check_spec _ w (Layout.mk ([] : List Str) ([] : List Str) ([] : List Section) ([] : List Link)) ((⟨none, 0, (fun _ => ())⟩ : SR (GoRep.R Str)    ), (⟨none, 0, (fun _ => ())⟩ : SR (GoRep.R Str)     ), (⟨none, 0, (fun _ => ())⟩ : SR (GoRep.R Section)      ), (⟨none, 0, (fun _ => ())⟩ : SR (GoRep.R Link)       )) y12 (whn_some hy13 hg) (lend_lt hs) ⟨(Kn.lend (Kn.trow (e := 9) (r := (⟨none, 0, (fun _ => ())⟩ : SR (GoRep.R Str)    )) (by repeat (first | exact Has.head | apply Has.tail))) hs), (Kn.lend (Kn.trow (e := 9) (r := (⟨none, 0, (fun _ => ())⟩ : SR (GoRep.R Str)     )) (by repeat (first | exact Has.head | apply Has.tail))) hs), (Kn.lend (Kn.trow (e := 57) (r := (⟨none, 0, (fun _ => ())⟩ : SR (GoRep.R Section)      )) (by repeat (first | exact Has.head | apply Has.tail))) hs), (Kn.lend (Kn.trow (e := 72) (r := (⟨none, 0, (fun _ => ())⟩ : SR (GoRep.R Link)       )) (by repeat (first | exact Has.head | apply Has.tail))) hs)⟩) ?_
  refine ow_evg rfl ev_eql ?_
  refine ow_ev ev_and ?_
  refine ow_ev ev_move ?_
  refine ow_evg rfl (ev_load_all (b := b2)) ?_
  refine ow_evg rfl (ev_build [.int .i64 0, .int .i64 0]) ?_
  refine ow_imp (fun w hm => hm.row_nil (α := Str) 9 (fun _ => ())) ?_
  refine ow_imp (fun w hm => hm.row_nil (α := Str) 9 (fun _ => ())) ?_
  refine ow_imp (fun w hm => hm.row_nil (α := Link) 72 (fun _ => ())) ?_
  obtain ⟨y17, hy18, hM⟩ := bind_some hM
  refine ow_callg rfl (fun hg w hm => let ⟨S, hs⟩ := hm; layout_Has_spec _ w (Layout.mk ([] : List Str) ([] : List Str) ([(Section.mk (⟨[88]⟩ : Str) 2 1000 0 (-1))] : List Section) ([] : List Link)) ((⟨none, 0, (fun _ => ())⟩ : SR (GoRep.R Str)        ), (⟨none, 0, (fun _ => ())⟩ : SR (GoRep.R Str)         ), r1, (⟨none, 0, (fun _ => ())⟩ : SR (GoRep.R Link)          )) (Step.mk 0 0) y17 (whn_some hy18 hg) (lend_lt hs) ⟨(Kn.lend (Kn.trow (e := 9) (r := (⟨none, 0, (fun _ => ())⟩ : SR (GoRep.R Str)        )) (by repeat (first | exact Has.head | apply Has.tail))) hs), (Kn.lend (Kn.trow (e := 9) (r := (⟨none, 0, (fun _ => ())⟩ : SR (GoRep.R Str)         )) (by repeat (first | exact Has.head | apply Has.tail))) hs), (Kn.lend (Kn.trow (e := 57) (r := r1) (by repeat (first | exact Has.head | apply Has.tail))) hs), (Kn.lend (Kn.trow (e := 72) (r := (⟨none, 0, (fun _ => ())⟩ : SR (GoRep.R Link)          )) (by repeat (first | exact Has.head | apply Has.tail))) hs)⟩) ?_
  refine ow_ev ev_and ?_
  refine ow_ev ev_assign ?_
  refine ow_nil (hK3 _ _ ?_); clear hK3
  obtain rfl := some_inj hM
  refine cw_ret (kw_retc1 (fun w hm => ret_of hm rfl))

end Go.Proofs.YtohhihdjdelckaaDoor

/- Models of functions, and that the code computes them. -/
import Derived.Test.YtnihhidbiepnhaaRc
import Derived.Test.YtnihhidbiepnhaaRe
namespace Go.Proofs.Ytnihhidbiepnhaa
open Go.Dc Go.RowKit
set_option maxRecDepth 10000
set_option linter.unusedVariables false
def law7_awake_m  : Option Bool :=
  (law7_example_m).bind fun y1 =>
  (route_Cells_m y1 (Route.mk ([(Step.mk 0 0), (Step.mk 1 0)] : List Step) 0)).bind fun y5 =>
  if (decide (y5.2.2 = 0) && decide (y5.2.1 = 40)) then
  ((law7_example_m).bind fun y9 =>
  (route_Check_m y9 (Route.mk ([] : List Step) 0)).bind fun y13 =>
  some ((decide (y5.2.2 = 0) && decide (y5.2.1 = 40)) && decide (y13 = 4)))
  else
  (some false)
theorem law7_awake_spec (S : Soup) (w : World)  (y : Bool) (hM : law7_awake_m  = some y) (hS : ∀ k, S k → k < w.heap.size)  :
    Calls Try.prog 27 #[] w (Ret w (.bool y)) := by
  refine calls_cw (args := []) Try.func27 rfl ((pre_nil hS).start) rfl ?_
  unfold law7_awake_m at hM
  refine cw_seq fun K1 hK1 => ?_
  refine cw_region ?_
  refine ow_ev ev_assign ?_
  refine ow_nil (hK1 _ _ ?_); clear hK1
  refine cw_seq fun K2 hK2 => ?_
  refine cw_region ?_
  obtain ⟨y1, hy2, hM⟩ := bind_some hM
  refine ow_cons (st_callF SelL.nil (fun S w hs hP => law7_example_spec _ w  y1 hy2 (lend_lt hs) ) (by intro r c hc; simp only [List.mem_cons, List.not_mem_nil, or_false] at hc; rcases hc with rfl | rfl | rfl | rfl <;> first | exact flatC_own | exact flatC_trow (fun _ _ _ _ => trivial)) (fun r3 => ?_))
  dsimp only [List.cons_append, List.nil_append]
  refine ow_ev (ev_build [.int .i64 0, .int .i64 0]) ?_
  refine ow_ev (ev_build [.int .i64 1, .int .i64 0]) ?_
  refine ow_cons (st_bslice (α := Step) 40 (fun _ => ()) ([(Step.mk 0 0), (Step.mk 1 0)] : List Step) (OkL.flat (fun _ _ _ _ => trivial)) (fun r4 => ?_))
  refine ow_ev (ev_build [.slice r4.a (([(Step.mk 0 0), (Step.mk 1 0)] : List Step).length) r4.cap, .int .i64 0]) ?_
  obtain ⟨y5, hy6, hM⟩ := bind_some hM
  refine ow_cons (st_callF SelL.nil (fun S w hs hP => route_Cells_spec _ w y1 r3 (Route.mk ([(Step.mk 0 0), (Step.mk 1 0)] : List Step) 0) r4 y5 hy6 (lend_lt hs) ⟨(Kn.lend (Kn.trow (e := 9) (r := r3.1) (by repeat (first | exact Has.head | apply Has.tail))) hs), (Kn.lend (Kn.trow (e := 9) (r := r3.2.1) (by repeat (first | exact Has.head | apply Has.tail))) hs), (Kn.lend (Kn.trow (e := 31) (r := r3.2.2.1) (by repeat (first | exact Has.head | apply Has.tail))) hs), (Kn.lend (Kn.trow (e := 91) (r := r3.2.2.2) (by repeat (first | exact Has.head | apply Has.tail))) hs)⟩ (Kn.lend (Kn.trow (e := 40) (r := r4) (by repeat (first | exact Has.head | apply Has.tail))) hs)) (by intro r c hc; simp only [List.mem_cons, List.not_mem_nil, or_false] at hc; rcases hc with rfl <;> first | exact flatC_own | exact flatC_trow (fun _ _ _ _ => trivial)) (fun r7 => ?_))
  dsimp only [List.cons_append, List.nil_append]
  refine ow_ev ev_move ?_
  refine ow_ev (ev_extract (vs := [.slice r7.a y5.1.length r7.cap, .int .i64 y5.2.1, .int .i64 y5.2.2])) ?_
  refine ow_ev (ev_extract (vs := [.slice r7.a y5.1.length r7.cap, .int .i64 y5.2.1, .int .i64 y5.2.2])) ?_
  refine ow_ev (ev_extract (vs := [.slice r7.a y5.1.length r7.cap, .int .i64 y5.2.1, .int .i64 y5.2.2])) ?_
  refine ow_ev ev_assign ?_
  refine ow_ev ev_assign ?_
  refine ow_ev ev_assign ?_
  refine ow_nil (hK2 _ _ ?_); clear hK2
  refine cw_seq fun K3 hK3 => ?_
  refine cw_region ?_
  refine ow_ev ev_move ?_
  refine ow_ev ev_eql ?_
  refine ow_ev ev_move ?_
  refine ow_evg rfl ev_move ?_
  refine ow_evg rfl ev_eql ?_
  refine ow_ev ev_and ?_
  refine ow_ev ev_move ?_
  refine ow_cases (decide (y5.2.2 = 0) && decide (y5.2.1 = 40)) (fun hg8 => ?_) (fun hg8 => ?_)
  ·
    replace hM := (ite_t hg8).symm.trans hM
    refine ow_gtrue rfl hg8 ?_
    obtain ⟨y9, hy10, hM⟩ := bind_some hM
    refine ow_cons (st_callF SelL.nil (fun S w hs hP => law7_example_spec _ w  y9 hy10 (lend_lt hs) ) (by intro r c hc; simp only [List.mem_cons, List.not_mem_nil, or_false] at hc; rcases hc with rfl | rfl | rfl | rfl <;> first | exact flatC_own | exact flatC_trow (fun _ _ _ _ => trivial)) (fun r11 => ?_))
    dsimp only [List.cons_append, List.nil_append]
    refine ow_gtrue rfl hg8 ?_
    refine ow_ev (ev_build [.slice none 0 0, .int .i64 0]) ?_
    refine ow_gtrue rfl hg8 ?_
    refine ow_imp (fun w hm => hm.row_nil (α := Step) 40 (fun _ => ())) ?_
    obtain ⟨y13, hy14, hM⟩ := bind_some hM
    refine ow_cons (st_callv (fun w hm => let ⟨S, hs⟩ := hm; route_Check_spec _ w y9 r11 (Route.mk ([] : List Step) 0) (⟨none, 0, (fun _ => ())⟩ : SR (GoRep.R Step) ) y13 hy14 (lend_lt hs) ⟨(Kn.lend (Kn.trow (e := 9) (r := r11.1) (by repeat (first | exact Has.head | apply Has.tail))) hs), (Kn.lend (Kn.trow (e := 9) (r := r11.2.1) (by repeat (first | exact Has.head | apply Has.tail))) hs), (Kn.lend (Kn.trow (e := 31) (r := r11.2.2.1) (by repeat (first | exact Has.head | apply Has.tail))) hs), (Kn.lend (Kn.trow (e := 91) (r := r11.2.2.2) (by repeat (first | exact Has.head | apply Has.tail))) hs)⟩ (Kn.lend (Kn.trow (e := 40) (r := (⟨none, 0, (fun _ => ())⟩ : SR (GoRep.R Step) )) (by repeat (first | exact Has.head | apply Has.tail))) hs)) ?_)
    refine ow_gtrue rfl hg8 ?_
    refine ow_ev ev_eql ?_
    refine ow_ev ev_and ?_
    refine ow_ev ev_assign ?_
    refine ow_nil (hK3 _ _ ?_); clear hK3
    obtain rfl := some_inj hM
    refine cw_ret (kw_retc1 (fun w hm => ret_of hm rfl))
  ·
    replace hM := (ite_f hg8).symm.trans hM
    refine ow_gskip rfl hg8 ?_
    refine ow_gskip rfl hg8 ?_
    refine ow_gskip rfl hg8 ?_
    refine ow_gskip rfl hg8 ?_
    refine ow_ev (ev_andF hg8) ?_
    refine ow_ev ev_assign ?_
    refine ow_nil (hK3 _ _ ?_); clear hK3
    obtain rfl := some_inj hM
    refine cw_ret (kw_retc1 (fun w hm => ret_of hm rfl))

end Go.Proofs.Ytnihhidbiepnhaa

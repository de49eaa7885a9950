/- Models of functions, and that the code computes them. -/
import Derived.Test.YtohhihdjdelckaaDoorLc
import Derived.Test.YtohhihdjdelckaaDoorLa
import Derived.Test.YtohhihdjdelckaaDoorRs
namespace Go.Proofs.YtohhihdjdelckaaDoor
open Go.Dc Go.RowKit
set_option maxRecDepth 10000
set_option linter.unusedVariables false
def law4_example_m  : Option Str :=
  some (⟨[115, 116, 97, 116, 105, 111, 110, 32, 78, 111, 114, 116, 104, 10, 112, 111, 105, 110, 116, 32, 87, 10, 115, 101, 99, 116, 105, 111, 110, 32, 84, 32, 52, 48, 32, 51, 51, 48, 48, 48, 32, 48, 10, 115, 101, 99, 116, 105, 111, 110, 32, 78, 49, 32, 50, 48, 32, 50, 48, 48, 48, 48, 32, 48, 32, 97, 116, 32, 78, 111, 114, 116, 104, 10, 115, 101, 99, 116, 105, 111, 110, 32, 78, 50, 32, 50, 48, 32, 50, 48, 48, 48, 48, 32, 48, 32, 97, 116, 32, 78, 111, 114, 116, 104, 10, 108, 105, 110, 107, 32, 84, 32, 66, 32, 78, 49, 32, 65, 32, 87, 32, 48, 10, 108, 105, 110, 107, 32, 84, 32, 66, 32, 78, 50, 32, 65, 32, 87, 32, 49, 10]⟩ : Str)
theorem law4_example_spec (S : Soup) (w : World)  (y : Str) (hM : law4_example_m  = some y) (hS : ∀ k, S k → k < w.heap.size)  :
    Calls Tryd.prog 20 #[] w (Ret w (.string y.ba)) := by
  refine calls_cw (args := []) Tryd.func20 rfl ((pre_nil hS).start) rfl ?_
  unfold law4_example_m at hM
  refine cw_seq fun K1 hK1 => ?_
  refine cw_region ?_
  refine ow_ev ev_assign ?_
  refine ow_nil (hK1 _ _ ?_); clear hK1
  refine cw_seq fun K2 hK2 => ?_
  refine cw_region ?_
  refine ow_ev ev_assign ?_
  refine ow_nil (hK2 _ _ ?_); clear hK2
  obtain rfl := some_inj hM
  refine cw_ret (kw_retc1 (fun w hm => ret_of hm rfl))

def law4_LayoutExamples_m  : Option Bool :=
  (law4_example_m).bind fun y1 =>
  (layout_Parse_m y1).bind fun y3 =>
  (layout_Hops_m y3.1 (Step.mk 0 0)).bind fun y7 =>
  (layout_Hops_m y3.1 (Step.mk 2 1)).bind fun y10 =>
  if decide (y3.2.2 = 0) then
  ((keep_Same_api_Hop_m y7 ([(Hop.mk (Step.mk 1 0) 0 0), (Hop.mk (Step.mk 2 0) 0 1)] : List Hop)).bind fun y15 =>
  if (decide (y3.2.2 = 0) && y15) then
  ((keep_Same_api_Hop_m y10 ([(Hop.mk (Step.mk 0 1) 0 1)] : List Hop)).bind fun y19 =>
  (whn ((decide (y3.2.2 = 0) && y15) && y19) default (layout_Resources_m y3.1)).bind fun y21 =>
  some (((decide (y3.2.2 = 0) && y15) && y19) && decide (y21 = 4)))
  else
  ((whn false default (layout_Resources_m y3.1)).bind fun y23 =>
  some (false && decide (y23 = 4))))
  else
  (if false then
  ((keep_Same_api_Hop_m y10 ([(Hop.mk (Step.mk 0 1) 0 1)] : List Hop)).bind fun y27 =>
  (whn (false && y27) default (layout_Resources_m y3.1)).bind fun y29 =>
  some ((false && y27) && decide (y29 = 4)))
  else
  (some false))
theorem law4_LayoutExamples_spec (S : Soup) (w : World)  (y : Bool) (hM : law4_LayoutExamples_m  = some y) (hS : ∀ k, S k → k < w.heap.size) (hg_0 : (imm (α := (List Str)) (⟨some ⟨0, 0, none⟩, 2, fun _ => ()⟩ : SR Unit) ([(⟨[65]⟩ : Str), (⟨[66]⟩ : Str)] : List Str)).φ S w) :
    Calls Tryd.prog 8 #[] w (Ret w (.bool y)) := by
  refine calls_cw (args := []) Tryd.func8 rfl ((pre_nil hS).start |>.factP (c := imm (α := (List Str)) (⟨some ⟨0, 0, none⟩, 2, fun _ => ()⟩ : SR Unit) ([(⟨[65]⟩ : Str), (⟨[66]⟩ : Str)] : List Str)) (fun _ h => False.elim h) hg_0) rfl ?_
  unfold law4_LayoutExamples_m at hM
  refine cw_seq fun K1 hK1 => ?_
  refine cw_region ?_
  refine ow_ev ev_assign ?_
  refine ow_nil (hK1 _ _ ?_); clear hK1
  refine cw_seq fun K2 hK2 => ?_
  refine cw_region ?_
  obtain ⟨y1, hy2, hM⟩ := bind_some hM
  refine ow_cons (st_callv (fun w hm => let ⟨S, hs⟩ := hm; law4_example_spec _ w  y1 hy2 (lend_lt hs) ) ?_)
  obtain ⟨y3, hy4, hM⟩ := bind_some hM
  refine ow_cons (st_callF SelL.nil (fun S w hs hP => layout_Parse_spec _ w y1 y3 hy4 (lend_lt hs) (Chunk.mono _ _ _ _ (fun _ h => .inl h) (((by repeat (first | exact Has.head | apply Has.tail)) : Has _ (imm (α := (List Str)) (⟨some ⟨0, 0, none⟩, 2, fun _ => ()⟩ : SR Unit) ([(⟨[65]⟩ : Str), (⟨[66]⟩ : Str)] : List Str))).φ hs))) (by intro r c hc; simp only [List.mem_cons, List.not_mem_nil, or_false] at hc; rcases hc with rfl | rfl | rfl | rfl <;> first | exact flatC_own | exact flatC_trow (fun _ _ _ _ => trivial)) (fun r5 => ?_))
  dsimp only [List.cons_append, List.nil_append]
  refine ow_ev ev_move ?_
  refine ow_ev (ev_extract (vs := [.agg #[.slice r5.1.a y3.1.Stations.length r5.1.cap, .slice r5.2.1.a y3.1.Points.length r5.2.1.cap, .slice r5.2.2.1.a y3.1.Sections.length r5.2.2.1.cap, .slice r5.2.2.2.a y3.1.Links.length r5.2.2.2.cap], .int .i64 y3.2.1, .int .i64 y3.2.2])) ?_
  refine ow_ev (ev_extract (vs := [.agg #[.slice r5.1.a y3.1.Stations.length r5.1.cap, .slice r5.2.1.a y3.1.Points.length r5.2.1.cap, .slice r5.2.2.1.a y3.1.Sections.length r5.2.2.1.cap, .slice r5.2.2.2.a y3.1.Links.length r5.2.2.2.cap], .int .i64 y3.2.1, .int .i64 y3.2.2])) ?_
  refine ow_ev (ev_extract (vs := [.agg #[.slice r5.1.a y3.1.Stations.length r5.1.cap, .slice r5.2.1.a y3.1.Points.length r5.2.1.cap, .slice r5.2.2.1.a y3.1.Sections.length r5.2.2.1.cap, .slice r5.2.2.2.a y3.1.Links.length r5.2.2.2.cap], .int .i64 y3.2.1, .int .i64 y3.2.2])) ?_
  refine ow_cons (st_alloc rfl (k := fun b6 => ?_))
  refine ow_cons (st_store_all (b := b6) (vs := [.slice r5.1.a y3.1.Stations.length r5.1.cap, .slice r5.2.1.a y3.1.Points.length r5.2.1.cap, .slice r5.2.2.1.a y3.1.Sections.length r5.2.2.1.cap, .slice r5.2.2.2.a y3.1.Links.length r5.2.2.2.cap]) (k := ?_))
  refine ow_ev ev_assign ?_
  refine ow_ev ev_assign ?_
  refine ow_nil (hK2 _ _ ?_); clear hK2
  refine cw_seq fun K3 hK3 => ?_
  refine cw_region ?_
  refine ow_ev (ev_load_all (b := b6)) ?_
  refine ow_ev (ev_build [.int .i64 0, .int .i64 0]) ?_
  obtain ⟨y7, hy8, hM⟩ := bind_some hM
  refine ow_cons (st_callF SelL.nil (fun S w hs hP => layout_Hops_spec _ w y3.1 r5 (Step.mk 0 0) y7 hy8 (lend_lt hs) ⟨(Kn.lend (Kn.trow (e := 9) (r := r5.1) (by repeat (first | exact Has.head | apply Has.tail))) hs), (Kn.lend (Kn.trow (e := 9) (r := r5.2.1) (by repeat (first | exact Has.head | apply Has.tail))) hs), (Kn.lend (Kn.trow (e := 57) (r := r5.2.2.1) (by repeat (first | exact Has.head | apply Has.tail))) hs), (Kn.lend (Kn.trow (e := 72) (r := r5.2.2.2) (by repeat (first | exact Has.head | apply Has.tail))) hs)⟩) (by intro r c hc; simp only [List.mem_cons, List.not_mem_nil, or_false] at hc; rcases hc with rfl <;> first | exact flatC_own | exact flatC_trow (fun _ _ _ _ => trivial)) (fun r9 => ?_))
  dsimp only [List.cons_append, List.nil_append]
  refine ow_ev ev_assign ?_
  refine ow_nil (hK3 _ _ ?_); clear hK3
  refine cw_seq fun K4 hK4 => ?_
  refine cw_region ?_
  refine ow_ev (ev_load_all (b := b6)) ?_
  refine ow_ev (ev_build [.int .i64 2, .int .i64 1]) ?_
  obtain ⟨y10, hy11, hM⟩ := bind_some hM
  refine ow_cons (st_callF SelL.nil (fun S w hs hP => layout_Hops_spec _ w y3.1 r5 (Step.mk 2 1) y10 hy11 (lend_lt hs) ⟨(Kn.lend (Kn.trow (e := 9) (r := r5.1) (by repeat (first | exact Has.head | apply Has.tail))) hs), (Kn.lend (Kn.trow (e := 9) (r := r5.2.1) (by repeat (first | exact Has.head | apply Has.tail))) hs), (Kn.lend (Kn.trow (e := 57) (r := r5.2.2.1) (by repeat (first | exact Has.head | apply Has.tail))) hs), (Kn.lend (Kn.trow (e := 72) (r := r5.2.2.2) (by repeat (first | exact Has.head | apply Has.tail))) hs)⟩) (by intro r c hc; simp only [List.mem_cons, List.not_mem_nil, or_false] at hc; rcases hc with rfl <;> first | exact flatC_own | exact flatC_trow (fun _ _ _ _ => trivial)) (fun r12 => ?_))
  dsimp only [List.cons_append, List.nil_append]
  refine ow_ev ev_assign ?_
  refine ow_nil (hK4 _ _ ?_); clear hK4
  refine cw_seq fun K5 hK5 => ?_
  refine cw_region ?_
  refine ow_ev ev_move ?_
  refine ow_ev ev_eql ?_
  refine ow_ev ev_move ?_
  refine ow_evg rfl ev_move ?_
  refine ow_evg rfl (ev_build [.int .i64 1, .int .i64 0]) ?_
  refine ow_evg rfl (ev_build [.int .i64 1, .int .i64 0, .int .i64 0, .int .i64 0]) ?_
  refine ow_evg rfl (ev_build [.int .i64 2, .int .i64 0]) ?_
  refine ow_evg rfl (ev_build [.int .i64 2, .int .i64 0, .int .i64 0, .int .i64 1]) ?_
  refine ow_cases (decide (y3.2.2 = 0)) (fun hg13 => ?_) (fun hg13 => ?_)
  ·
    replace hM := (ite_t hg13).symm.trans hM
    refine ow_know 21 hg13 rfl ?_
    refine ow_know 22 hg13 rfl ?_
    refine ow_know 23 hg13 rfl ?_
    refine ow_know 24 hg13 rfl ?_
    refine ow_know 25 hg13 rfl ?_
    refine ow_gtrue rfl hg13 ?_
    refine ow_cons (st_bslice (α := Hop) 52 (fun _ => ()) ([(Hop.mk (Step.mk 1 0) 0 0), (Hop.mk (Step.mk 2 0) 0 1)] : List Hop) (OkL.flat (fun _ _ _ _ => trivial)) (fun r14 => ?_))
    refine ow_gtrue rfl hg13 ?_
    obtain ⟨y15, hy16, hM⟩ := bind_some hM
    refine ow_cons (st_callv (fun w hm => let ⟨S, hs⟩ := hm; keep_Same_api_Hop_spec _ w y7 r9 ([(Hop.mk (Step.mk 1 0) 0 0), (Hop.mk (Step.mk 2 0) 0 1)] : List Hop) r14 y15 hy16 (lend_lt hs) (Kn.lend (Kn.trow (e := 52) (r := r9) (by repeat (first | exact Has.head | apply Has.tail))) hs) (Kn.lend (Kn.trow (e := 52) (r := r14) (by repeat (first | exact Has.head | apply Has.tail))) hs)) ?_)
    refine ow_ev ev_and ?_
    refine ow_ev ev_move ?_
    refine ow_evg rfl ev_move ?_
    refine ow_evg rfl (ev_build [.int .i64 0, .int .i64 1]) ?_
    refine ow_evg rfl (ev_build [.int .i64 0, .int .i64 1, .int .i64 0, .int .i64 1]) ?_
    refine ow_cases (decide (y3.2.2 = 0) && y15) (fun hg17 => ?_) (fun hg17 => ?_)
    ·
      replace hM := (ite_t hg17).symm.trans hM
      refine ow_know 30 hg17 rfl ?_
      refine ow_know 31 hg17 rfl ?_
      refine ow_know 32 hg17 rfl ?_
      refine ow_gtrue rfl hg17 ?_
      refine ow_cons (st_bslice (α := Hop) 52 (fun _ => ()) ([(Hop.mk (Step.mk 0 1) 0 1)] : List Hop) (OkL.flat (fun _ _ _ _ => trivial)) (fun r18 => ?_))
      refine ow_gtrue rfl hg17 ?_
      obtain ⟨y19, hy20, hM⟩ := bind_some hM
      refine ow_cons (st_callv (fun w hm => let ⟨S, hs⟩ := hm; keep_Same_api_Hop_spec _ w y10 r12 ([(Hop.mk (Step.mk 0 1) 0 1)] : List Hop) r18 y19 hy20 (lend_lt hs) (Kn.lend (Kn.trow (e := 52) (r := r12) (by repeat (first | exact Has.head | apply Has.tail))) hs) (Kn.lend (Kn.trow (e := 52) (r := r18) (by repeat (first | exact Has.head | apply Has.tail))) hs)) ?_)
      refine ow_ev ev_and ?_
      refine ow_ev ev_move ?_
      refine ow_evg rfl (ev_load_all (b := b6)) ?_
      obtain ⟨y21, hy22, hM⟩ := bind_some hM
      refine ow_callg rfl (fun hg w hm => let ⟨S, hs⟩ := hm; layout_Resources_spec _ w y3.1 r5 y21 (whn_some hy22 hg) (lend_lt hs) ⟨(Kn.lend (Kn.trow (e := 9) (r := r5.1) (by repeat (first | exact Has.head | apply Has.tail))) hs), (Kn.lend (Kn.trow (e := 9) (r := r5.2.1) (by repeat (first | exact Has.head | apply Has.tail))) hs), (Kn.lend (Kn.trow (e := 57) (r := r5.2.2.1) (by repeat (first | exact Has.head | apply Has.tail))) hs), (Kn.lend (Kn.trow (e := 72) (r := r5.2.2.2) (by repeat (first | exact Has.head | apply Has.tail))) hs)⟩) ?_
      refine ow_evg rfl ev_eql ?_
      refine ow_ev ev_and ?_
      refine ow_ev ev_assign ?_
      refine ow_nil (hK5 _ _ ?_); clear hK5
      obtain rfl := some_inj hM
      refine cw_ret (kw_retc1 (fun w hm => ret_of hm rfl))
    ·
      replace hM := (ite_f hg17).symm.trans hM
      refine ow_gskip rfl hg17 ?_
      refine ow_gskip rfl hg17 ?_
      refine ow_ev (ev_andF hg17) ?_
      refine ow_ev ev_move ?_
      refine ow_evg rfl (ev_load_all (b := b6)) ?_
      obtain ⟨y23, hy24, hM⟩ := bind_some hM
      refine ow_callg rfl (fun hg w hm => let ⟨S, hs⟩ := hm; layout_Resources_spec _ w y3.1 r5 y23 (whn_some hy24 hg) (lend_lt hs) ⟨(Kn.lend (Kn.trow (e := 9) (r := r5.1) (by repeat (first | exact Has.head | apply Has.tail))) hs), (Kn.lend (Kn.trow (e := 9) (r := r5.2.1) (by repeat (first | exact Has.head | apply Has.tail))) hs), (Kn.lend (Kn.trow (e := 57) (r := r5.2.2.1) (by repeat (first | exact Has.head | apply Has.tail))) hs), (Kn.lend (Kn.trow (e := 72) (r := r5.2.2.2) (by repeat (first | exact Has.head | apply Has.tail))) hs)⟩) ?_
      refine ow_evg rfl ev_eql ?_
      refine ow_ev ev_and ?_
      refine ow_ev ev_assign ?_
      refine ow_nil (hK5 _ _ ?_); clear hK5
      obtain rfl := some_inj hM
      refine cw_ret (kw_retc1 (fun w hm => ret_of hm rfl))
  ·
    replace hM := (ite_f hg13).symm.trans hM
    refine ow_gskip rfl hg13 ?_
    refine ow_gskip rfl hg13 ?_
    refine ow_ev (ev_andF hg13) ?_
    refine ow_ev ev_move ?_
    refine ow_evg rfl ev_move ?_
    refine ow_evg rfl (ev_build [.int .i64 0, .int .i64 1]) ?_
    refine ow_evg rfl (ev_build [.int .i64 0, .int .i64 1, .int .i64 0, .int .i64 1]) ?_
    refine ow_cases false (fun hg25 => ?_) (fun hg25 => ?_)
    ·
      replace hM := (ite_t hg25).symm.trans hM
      refine ow_know 30 hg25 rfl ?_
      refine ow_know 31 hg25 rfl ?_
      refine ow_know 32 hg25 rfl ?_
      refine ow_gtrue rfl hg25 ?_
      refine ow_cons (st_bslice (α := Hop) 52 (fun _ => ()) ([(Hop.mk (Step.mk 0 1) 0 1)] : List Hop) (OkL.flat (fun _ _ _ _ => trivial)) (fun r26 => ?_))
      refine ow_gtrue rfl hg25 ?_
      obtain ⟨y27, hy28, hM⟩ := bind_some hM
      refine ow_cons (st_callv (fun w hm => let ⟨S, hs⟩ := hm; keep_Same_api_Hop_spec _ w y10 r12 ([(Hop.mk (Step.mk 0 1) 0 1)] : List Hop) r26 y27 hy28 (lend_lt hs) (Kn.lend (Kn.trow (e := 52) (r := r12) (by repeat (first | exact Has.head | apply Has.tail))) hs) (Kn.lend (Kn.trow (e := 52) (r := r26) (by repeat (first | exact Has.head | apply Has.tail))) hs)) ?_)
      refine ow_ev ev_and ?_
      refine ow_ev ev_move ?_
      refine ow_evg rfl (ev_load_all (b := b6)) ?_
      obtain ⟨y29, hy30, hM⟩ := bind_some hM
      refine ow_callg rfl (fun hg w hm => let ⟨S, hs⟩ := hm; layout_Resources_spec _ w y3.1 r5 y29 (whn_some hy30 hg) (lend_lt hs) ⟨(Kn.lend (Kn.trow (e := 9) (r := r5.1) (by repeat (first | exact Has.head | apply Has.tail))) hs), (Kn.lend (Kn.trow (e := 9) (r := r5.2.1) (by repeat (first | exact Has.head | apply Has.tail))) hs), (Kn.lend (Kn.trow (e := 57) (r := r5.2.2.1) (by repeat (first | exact Has.head | apply Has.tail))) hs), (Kn.lend (Kn.trow (e := 72) (r := r5.2.2.2) (by repeat (first | exact Has.head | apply Has.tail))) hs)⟩) ?_
      refine ow_evg rfl ev_eql ?_
      refine ow_ev ev_and ?_
      refine ow_ev ev_assign ?_
      refine ow_nil (hK5 _ _ ?_); clear hK5
      obtain rfl := some_inj hM
      refine cw_ret (kw_retc1 (fun w hm => ret_of hm rfl))
    ·
      replace hM := (ite_f hg25).symm.trans hM
      refine ow_gskip rfl hg25 ?_
      refine ow_gskip rfl hg25 ?_
      refine ow_ev (ev_andF hg25) ?_
      refine ow_ev ev_move ?_
      refine ow_gskip rfl hg25 ?_
      refine ow_gskip rfl hg25 ?_
      refine ow_gskip rfl hg25 ?_
      refine ow_ev (ev_andF hg25) ?_
      refine ow_ev ev_assign ?_
      refine ow_nil (hK5 _ _ ?_); clear hK5
      obtain rfl := some_inj hM
      refine cw_ret (kw_retc1 (fun w hm => ret_of hm rfl))

end Go.Proofs.YtohhihdjdelckaaDoor

/- Models of functions, and that the code computes them. -/
import Derived.Test.YtnihhidbiepnhaaRf
import Derived.Test.YtnihhidbiepnhaaFl
import Derived.Test.YtnihhidbiepnhaaRn
namespace Go.Proofs.Ytnihhidbiepnhaa
open Go.Dc Go.RowKit
set_option maxRecDepth 10000
set_option linter.unusedVariables false
def law7_RouteExamples_m  : Option Bool :=
  (law7_example_m).bind fun y3 =>
  (route_Resources_m y3 (Route.mk ([(Step.mk 0 0), (Step.mk 2 0)] : List Step) 0)).bind fun y6 =>
  (law7_example_m).bind fun y9 =>
  (route_Find_m y9 (Step.mk 0 0) 2 100).bind fun y12 =>
  if (decide (y6.2 = 0) && decide (y12.2.2 = 0)) then
  ((keep_Same_int_m y6.1 ([0, 2, 3] : List Int)).bind fun y17 =>
  if (((decide (y6.2 = 0) && decide (y12.2.2 = 0)) && y17) && decide (y12.2.1 = 3)) then
  ((keep_SameRoutes_m y12.1 ([(Route.mk ([(Step.mk 0 0), (Step.mk 2 0)] : List Step) 0)] : List Route)).bind fun y21 =>
  if ((((decide (y6.2 = 0) && decide (y12.2.2 = 0)) && y17) && decide (y12.2.1 = 3)) && y21) then
  ((law7_example_m).bind fun y24 =>
  (route_Check_m y24 (Route.mk ([(Step.mk 0 0), (Step.mk 2 0)] : List Step) 0)).bind fun y27 =>
  some (((((decide (y6.2 = 0) && decide (y12.2.2 = 0)) && y17) && decide (y12.2.1 = 3)) && y21) && decide (y27 = 0)))
  else
  (some false))
  else
  (if false then
  ((law7_example_m).bind fun y30 =>
  (route_Check_m y30 (Route.mk ([(Step.mk 0 0), (Step.mk 2 0)] : List Step) 0)).bind fun y33 =>
  some (false && decide (y33 = 0)))
  else
  (some false)))
  else
  (if (false && decide (y12.2.1 = 3)) then
  ((keep_SameRoutes_m y12.1 ([(Route.mk ([(Step.mk 0 0), (Step.mk 2 0)] : List Step) 0)] : List Route)).bind fun y37 =>
  if ((false && decide (y12.2.1 = 3)) && y37) then
  ((law7_example_m).bind fun y40 =>
  (route_Check_m y40 (Route.mk ([(Step.mk 0 0), (Step.mk 2 0)] : List Step) 0)).bind fun y43 =>
  some (((false && decide (y12.2.1 = 3)) && y37) && decide (y43 = 0)))
  else
  (some false))
  else
  (if false then
  ((law7_example_m).bind fun y46 =>
  (route_Check_m y46 (Route.mk ([(Step.mk 0 0), (Step.mk 2 0)] : List Step) 0)).bind fun y49 =>
  some (false && decide (y49 = 0)))
  else
  (some false)))
theorem law7_RouteExamples_spec (S : Soup) (w : World)  (y : Bool) (hM : law7_RouteExamples_m  = some y) (hS : ∀ k, S k → k < w.heap.size)  :
    Calls Try.prog 9 #[] w (Ret w (.bool y)) := by
  refine calls_cw (args := []) Try.func9 rfl ((pre_nil hS).start) rfl ?_
  unfold law7_RouteExamples_m at hM
  refine cw_seq fun K1 hK1 => ?_
  refine cw_region ?_
  refine ow_ev ev_assign ?_
  refine ow_nil (hK1 _ _ ?_); clear hK1
  refine cw_seq fun K2 hK2 => ?_
  refine cw_region ?_
  refine ow_ev (ev_build [.int .i64 0, .int .i64 0]) ?_
  refine ow_ev (ev_build [.int .i64 2, .int .i64 0]) ?_
  refine ow_cons (st_bslice (α := Step) 40 (fun _ => ()) ([(Step.mk 0 0), (Step.mk 2 0)] : List Step) (OkL.flat (fun _ _ _ _ => trivial)) (fun r1 => ?_))
  refine ow_ev (ev_build [.slice r1.a (([(Step.mk 0 0), (Step.mk 2 0)] : List Step).length) r1.cap, .int .i64 0]) ?_
  refine ow_cons (st_alloc rfl (k := fun b2 => ?_))
  refine ow_cons (st_store_all (b := b2) (vs := [.slice r1.a (([(Step.mk 0 0), (Step.mk 2 0)] : List Step).length) r1.cap, .int .i64 0]) (k := ?_))
  refine ow_nil (hK2 _ _ ?_); clear hK2
  refine cw_seq fun K3 hK3 => ?_
  refine cw_region_any _ (List.Sublist.refl _) ?_
  refine aw_ev 1 rfl (ev_load_all (b := b2)) ?_
  obtain ⟨y3, hy4, hM⟩ := bind_some hM
  refine aw_one 0 rfl (st_callF SelL.nil (fun S w hs hP => law7_example_spec _ w  y3 hy4 (lend_lt hs) ) (by intro r c hc; simp only [List.mem_cons, List.not_mem_nil, or_false] at hc; rcases hc with rfl | rfl | rfl | rfl <;> first | exact flatC_own | exact flatC_trow (fun _ _ _ _ => trivial)) (fun r5 => ⟨fun w hm => hm.sub (by repeat (first | exact List.Sublist.refl _ | apply List.Sublist.cons_cons | apply List.Sublist.cons)), ?_⟩))
  dsimp only [List.cons_append, List.nil_append]
  obtain ⟨y6, hy7, hM⟩ := bind_some hM
  refine aw_one 2 rfl (st_callF SelL.nil (fun S w hs hP => route_Resources_spec _ w y3 r5 (Route.mk ([(Step.mk 0 0), (Step.mk 2 0)] : List Step) 0) r1 y6 hy7 (lend_lt hs) ⟨(Kn.lend (Kn.trow (e := 9) (r := r5.1) (by repeat (first | exact Has.head | apply Has.tail))) hs), (Kn.lend (Kn.trow (e := 9) (r := r5.2.1) (by repeat (first | exact Has.head | apply Has.tail))) hs), (Kn.lend (Kn.trow (e := 31) (r := r5.2.2.1) (by repeat (first | exact Has.head | apply Has.tail))) hs), (Kn.lend (Kn.trow (e := 91) (r := r5.2.2.2) (by repeat (first | exact Has.head | apply Has.tail))) hs)⟩ (Kn.lend (Kn.trow (e := 40) (r := r1) (by repeat (first | exact Has.head | apply Has.tail))) hs)) (by intro r c hc; simp only [List.mem_cons, List.not_mem_nil, or_false] at hc; rcases hc with rfl <;> first | exact flatC_own | exact flatC_trow (fun _ _ _ _ => trivial)) (fun r8 => ⟨fun w hm => hm.sub (by repeat (first | exact List.Sublist.refl _ | apply List.Sublist.cons_cons | apply List.Sublist.cons)), ?_⟩))
  dsimp only [List.cons_append, List.nil_append]
  refine aw_ev 3 rfl ev_move ?_
  refine aw_ev 4 rfl (ev_extract (vs := [.slice r8.a y6.1.length r8.cap, .int .i64 y6.2])) ?_
  refine aw_ev 5 rfl (ev_extract (vs := [.slice r8.a y6.1.length r8.cap, .int .i64 y6.2])) ?_
  refine aw_ev 6 rfl ev_assign ?_
  refine aw_ev 7 rfl ev_assign ?_
  refine aw_done (hK3 _ _ ?_); clear hK3
  refine cw_seq fun K4 hK4 => ?_
  refine cw_region ?_
  obtain ⟨y9, hy10, hM⟩ := bind_some hM
  refine ow_cons (st_callF SelL.nil (fun S w hs hP => law7_example_spec _ w  y9 hy10 (lend_lt hs) ) (by intro r c hc; simp only [List.mem_cons, List.not_mem_nil, or_false] at hc; rcases hc with rfl | rfl | rfl | rfl <;> first | exact flatC_own | exact flatC_trow (fun _ _ _ _ => trivial)) (fun r11 => ?_))
  dsimp only [List.cons_append, List.nil_append]
  refine ow_ev (ev_build [.int .i64 0, .int .i64 0]) ?_
  refine ow_imp (fun w hm => hm.freeze (r := r11.1) (by repeat (first | exact Upd.head | apply Upd.tail))) ?_
  refine ow_imp (fun w hm => hm.freeze (r := r11.2.1) (by repeat (first | exact Upd.head | apply Upd.tail))) ?_
  refine ow_imp (fun w hm => hm.freeze (r := r11.2.2.1) (by repeat (first | exact Upd.head | apply Upd.tail))) ?_
  refine ow_imp (fun w hm => hm.freeze (r := r11.2.2.2) (by repeat (first | exact Upd.head | apply Upd.tail))) ?_
  obtain ⟨y12, hy13, hM⟩ := bind_some hM
  refine ow_cons (st_callS SelL.nil (fun S w hs hP => route_Find_spec _ w y9 r11 (Step.mk 0 0) 2 100 y12 hy13 hs.lt ⟨((Sk.imm (α := List Str) (r := r11.1) (x := y9.Stations) (by repeat (first | exact Has.head | apply Has.tail))) S w hs), ((Sk.imm (α := List Str) (r := r11.2.1) (x := y9.Points) (by repeat (first | exact Has.head | apply Has.tail))) S w hs), ((Sk.imm (α := List Section) (r := r11.2.2.1) (x := y9.Sections) (by repeat (first | exact Has.head | apply Has.tail))) S w hs), ((Sk.imm (α := List Link) (r := r11.2.2.2) (x := y9.Links) (by repeat (first | exact Has.head | apply Has.tail))) S w hs)⟩)  (fun r14 => ?_))
  dsimp only [List.cons_append, List.nil_append]
  refine ow_ev ev_move ?_
  refine ow_ev (ev_extract (vs := [.slice r14.a y12.1.length r14.cap, .int .i64 y12.2.1, .int .i64 y12.2.2])) ?_
  refine ow_ev (ev_extract (vs := [.slice r14.a y12.1.length r14.cap, .int .i64 y12.2.1, .int .i64 y12.2.2])) ?_
  refine ow_ev (ev_extract (vs := [.slice r14.a y12.1.length r14.cap, .int .i64 y12.2.1, .int .i64 y12.2.2])) ?_
  refine ow_ev ev_assign ?_
  refine ow_ev ev_assign ?_
  refine ow_ev ev_assign ?_
  refine ow_nil (hK4 _ _ ?_); clear hK4
  refine cw_seq fun K5 hK5 => ?_
  refine cw_region_any [trow 48 r14 y12.1, imm (α := (List Str)) r11.1 y9.Stations, imm (α := (List Str)) r11.2.1 y9.Points, imm (α := (List Section)) r11.2.2.1 y9.Sections, imm (α := (List Link)) r11.2.2.2 y9.Links, trow 3 r8 y6.1, trow 9 r5.1 y3.Stations, trow 9 r5.2.1 y3.Points, trow 31 r5.2.2.1 y3.Sections, trow 91 r5.2.2.2 y3.Links, own b2 48 [.slice r1.a (([(Step.mk 0 0), (Step.mk 2 0)] : List Step).length) r1.cap, .int .i64 0]] (by repeat (first | exact List.Sublist.refl _ | apply List.Sublist.cons_cons | apply List.Sublist.cons)) ?_
  refine aw_ev 0 rfl ev_move ?_
  refine aw_ev 1 rfl ev_eql ?_
  refine aw_ev 2 rfl ev_move ?_
  refine aw_evg 3 rfl rfl ev_move ?_
  refine aw_evg 4 rfl rfl ev_eql ?_
  refine aw_ev 5 rfl ev_and ?_
  refine aw_ev 6 rfl ev_move ?_
  refine aw_evg 7 rfl rfl ev_move ?_
  refine aw_cases (decide (y6.2 = 0) && decide (y12.2.2 = 0)) (fun hg15 => ?_) (fun hg15 => ?_)
  ·
    replace hM := (ite_t hg15).symm.trans hM
    refine aw_know 31 hg15 rfl ?_
    refine aw_gtrue 8 rfl rfl hg15 (st_bslice (α := Int) 3 (fun _ => ()) ([0, 2, 3] : List Int) (OkL.flat (fun _ _ _ _ => trivial)) (fun r16 => ⟨fun w hm => hm.sub (by repeat (first | exact List.Sublist.refl _ | apply List.Sublist.cons_cons | apply List.Sublist.cons)), ?_⟩))
    obtain ⟨y17, hy18, hM⟩ := bind_some hM
    refine aw_gtrue 9 rfl rfl hg15 (st_callv (fun w hm => let ⟨S, hs⟩ := hm; keep_Same_int_spec _ w y6.1 r8 ([0, 2, 3] : List Int) r16 y17 hy18 (lend_lt hs) (Kn.lend (Kn.trow (e := 3) (r := r8) (by repeat (first | exact Has.head | apply Has.tail))) hs) (Kn.lend (Kn.trow (e := 3) (r := r16) (by repeat (first | exact Has.head | apply Has.tail))) hs)) ⟨fun w hm => hm.sub (by repeat (first | exact List.Sublist.refl _ | apply List.Sublist.cons_cons | apply List.Sublist.cons)), ?_⟩)
    refine aw_ev 10 rfl ev_and ?_
    refine aw_ev 11 rfl ev_move ?_
    refine aw_evg 12 rfl rfl ev_move ?_
    refine aw_evg 13 rfl rfl ev_eql ?_
    refine aw_ev 14 rfl ev_and ?_
    refine aw_ev 15 rfl ev_move ?_
    refine aw_evg 16 rfl rfl ev_move ?_
    refine aw_evg 17 rfl rfl (ev_load_all (b := b2)) ?_
    refine aw_cases (((decide (y6.2 = 0) && decide (y12.2.2 = 0)) && y17) && decide (y12.2.1 = 3)) (fun hg19 => ?_) (fun hg19 => ?_)
    ·
      replace hM := (ite_t hg19).symm.trans hM
      refine aw_know 40 hg19 rfl ?_
      refine aw_know 41 hg19 rfl ?_
      refine aw_imp (fun w hm => hm.freeze (r := r1) (by repeat (first | exact Upd.head | apply Upd.tail))) ?_
      refine aw_gtrue 18 rfl rfl hg19 (st_bslice (α := Route) 48 (fun _ => r1) ([(Route.mk ([(Step.mk 0 0), (Step.mk 2 0)] : List Step) 0)] : List Route) (OkL.cons (fun S w hs => ((Sk.imm (α := List Step) (r := r1) (x := ([(Step.mk 0 0), (Step.mk 2 0)] : List Step)) (by repeat (first | exact Has.head | apply Has.tail))) S w hs)) OkL.nil) (fun r20 => ⟨fun w hm => hm.sub (by repeat (first | exact List.Sublist.refl _ | apply List.Sublist.cons_cons | apply List.Sublist.cons)), ?_⟩))
      obtain ⟨y21, hy22, hM⟩ := bind_some hM
      refine aw_gtrue 19 rfl rfl hg19 (st_callv (fun w hm => let ⟨S, hs⟩ := hm; keep_SameRoutes_spec _ w y12.1 r14 ([(Route.mk ([(Step.mk 0 0), (Step.mk 2 0)] : List Step) 0)] : List Route) r20 y21 hy22 (lend_lt hs) (Kn.lend (Kn.trow (e := 48) (r := r14) (by repeat (first | exact Has.head | apply Has.tail))) hs) (Kn.lend (Kn.trow (e := 48) (r := r20) (by repeat (first | exact Has.head | apply Has.tail))) hs)) ⟨fun w hm => hm.sub (by repeat (first | exact List.Sublist.refl _ | apply List.Sublist.cons_cons | apply List.Sublist.cons)), ?_⟩)
      refine aw_ev 20 rfl ev_and ?_
      refine aw_ev 21 rfl ev_move ?_
      refine aw_evg 23 rfl rfl (ev_load_all (b := b2)) ?_
      refine aw_cases ((((decide (y6.2 = 0) && decide (y12.2.2 = 0)) && y17) && decide (y12.2.1 = 3)) && y21) (fun hg23 => ?_) (fun hg23 => ?_)
      ·
        replace hM := (ite_t hg23).symm.trans hM
        refine aw_know 47 hg23 rfl ?_
        obtain ⟨y24, hy25, hM⟩ := bind_some hM
        refine aw_gtrue 22 rfl rfl hg23 (st_callF SelL.nil (fun S w hs hP => law7_example_spec _ w  y24 hy25 (lend_lt hs) ) (by intro r c hc; simp only [List.mem_cons, List.not_mem_nil, or_false] at hc; rcases hc with rfl | rfl | rfl | rfl <;> first | exact flatC_own | exact flatC_trow (fun _ _ _ _ => trivial)) (fun r26 => ⟨fun w hm => hm.sub (by repeat (first | exact List.Sublist.refl _ | apply List.Sublist.cons_cons | apply List.Sublist.cons)), ?_⟩))
        dsimp only [List.cons_append, List.nil_append]
        obtain ⟨y27, hy28, hM⟩ := bind_some hM
        refine aw_gtrue 24 rfl rfl hg23 (st_callv (fun w hm => let ⟨S, hs⟩ := hm; route_Check_spec _ w y24 r26 (Route.mk ([(Step.mk 0 0), (Step.mk 2 0)] : List Step) 0) r1 y27 hy28 (lend_lt hs) ⟨(Kn.lend (Kn.trow (e := 9) (r := r26.1) (by repeat (first | exact Has.head | apply Has.tail))) hs), (Kn.lend (Kn.trow (e := 9) (r := r26.2.1) (by repeat (first | exact Has.head | apply Has.tail))) hs), (Kn.lend (Kn.trow (e := 31) (r := r26.2.2.1) (by repeat (first | exact Has.head | apply Has.tail))) hs), (Kn.lend (Kn.trow (e := 91) (r := r26.2.2.2) (by repeat (first | exact Has.head | apply Has.tail))) hs)⟩ (Kn.lend (Kn.imm (α := List Step) (r := r1) (x := ([(Step.mk 0 0), (Step.mk 2 0)] : List Step)) (by repeat (first | exact Has.head | apply Has.tail))) hs)) ⟨fun w hm => hm.sub (by repeat (first | exact List.Sublist.refl _ | apply List.Sublist.cons_cons | apply List.Sublist.cons)), ?_⟩)
        refine aw_evk 25 rfl rfl hg23 ev_eql ?_
        refine aw_ev 26 rfl ev_and ?_
        refine aw_ev 27 rfl ev_assign ?_
        refine aw_done (hK5 _ _ ?_); clear hK5
        obtain rfl := some_inj hM
        refine cw_ret (kw_retc1 (fun w hm => ret_of hm rfl))
      ·
        replace hM := (ite_f hg23).symm.trans hM
        refine aw_gskip 22 rfl rfl hg23 ?_
        refine aw_gskip 24 rfl rfl hg23 ?_
        refine aw_gskip 25 rfl rfl hg23 ?_
        refine aw_ev 26 rfl (ev_andF hg23) ?_
        refine aw_ev 27 rfl ev_assign ?_
        refine aw_done (hK5 _ _ ?_); clear hK5
        obtain rfl := some_inj hM
        refine cw_ret (kw_retc1 (fun w hm => ret_of hm rfl))
    ·
      replace hM := (ite_f hg19).symm.trans hM
      refine aw_gskip 18 rfl rfl hg19 ?_
      refine aw_gskip 19 rfl rfl hg19 ?_
      refine aw_ev 20 rfl (ev_andF hg19) ?_
      refine aw_ev 21 rfl ev_move ?_
      refine aw_evg 23 rfl rfl (ev_load_all (b := b2)) ?_
      refine aw_cases false (fun hg29 => ?_) (fun hg29 => ?_)
      ·
        replace hM := (ite_t hg29).symm.trans hM
        refine aw_know 47 hg29 rfl ?_
        obtain ⟨y30, hy31, hM⟩ := bind_some hM
        refine aw_gtrue 22 rfl rfl hg29 (st_callF SelL.nil (fun S w hs hP => law7_example_spec _ w  y30 hy31 (lend_lt hs) ) (by intro r c hc; simp only [List.mem_cons, List.not_mem_nil, or_false] at hc; rcases hc with rfl | rfl | rfl | rfl <;> first | exact flatC_own | exact flatC_trow (fun _ _ _ _ => trivial)) (fun r32 => ⟨fun w hm => hm.sub (by repeat (first | exact List.Sublist.refl _ | apply List.Sublist.cons_cons | apply List.Sublist.cons)), ?_⟩))
        dsimp only [List.cons_append, List.nil_append]
        obtain ⟨y33, hy34, hM⟩ := bind_some hM
        refine aw_gtrue 24 rfl rfl hg29 (st_callv (fun w hm => let ⟨S, hs⟩ := hm; route_Check_spec _ w y30 r32 (Route.mk ([(Step.mk 0 0), (Step.mk 2 0)] : List Step) 0) r1 y33 hy34 (lend_lt hs) ⟨(Kn.lend (Kn.trow (e := 9) (r := r32.1) (by repeat (first | exact Has.head | apply Has.tail))) hs), (Kn.lend (Kn.trow (e := 9) (r := r32.2.1) (by repeat (first | exact Has.head | apply Has.tail))) hs), (Kn.lend (Kn.trow (e := 31) (r := r32.2.2.1) (by repeat (first | exact Has.head | apply Has.tail))) hs), (Kn.lend (Kn.trow (e := 91) (r := r32.2.2.2) (by repeat (first | exact Has.head | apply Has.tail))) hs)⟩ (Kn.lend (Kn.trow (e := 40) (r := r1) (by repeat (first | exact Has.head | apply Has.tail))) hs)) ⟨fun w hm => hm.sub (by repeat (first | exact List.Sublist.refl _ | apply List.Sublist.cons_cons | apply List.Sublist.cons)), ?_⟩)
        refine aw_evk 25 rfl rfl hg29 ev_eql ?_
        refine aw_ev 26 rfl ev_and ?_
        refine aw_ev 27 rfl ev_assign ?_
        refine aw_done (hK5 _ _ ?_); clear hK5
        obtain rfl := some_inj hM
        refine cw_ret (kw_retc1 (fun w hm => ret_of hm rfl))
      ·
        replace hM := (ite_f hg29).symm.trans hM
        refine aw_gskip 22 rfl rfl hg29 ?_
        refine aw_gskip 24 rfl rfl hg29 ?_
        refine aw_gskip 25 rfl rfl hg29 ?_
        refine aw_ev 26 rfl (ev_andF hg29) ?_
        refine aw_ev 27 rfl ev_assign ?_
        refine aw_done (hK5 _ _ ?_); clear hK5
        obtain rfl := some_inj hM
        refine cw_ret (kw_retc1 (fun w hm => ret_of hm rfl))
  ·
    replace hM := (ite_f hg15).symm.trans hM
    refine aw_gskip 8 rfl rfl hg15 ?_
    refine aw_gskip 9 rfl rfl hg15 ?_
    refine aw_ev 10 rfl (ev_andF hg15) ?_
    refine aw_ev 11 rfl ev_move ?_
    refine aw_evg 12 rfl rfl ev_move ?_
    refine aw_evg 13 rfl rfl ev_eql ?_
    refine aw_ev 14 rfl ev_and ?_
    refine aw_ev 15 rfl ev_move ?_
    refine aw_evg 16 rfl rfl ev_move ?_
    refine aw_evg 17 rfl rfl (ev_load_all (b := b2)) ?_
    refine aw_cases (false && decide (y12.2.1 = 3)) (fun hg35 => ?_) (fun hg35 => ?_)
    ·
      replace hM := (ite_t hg35).symm.trans hM
      refine aw_know 40 hg35 rfl ?_
      refine aw_know 41 hg35 rfl ?_
      refine aw_imp (fun w hm => hm.freeze (r := r1) (by repeat (first | exact Upd.head | apply Upd.tail))) ?_
      refine aw_gtrue 18 rfl rfl hg35 (st_bslice (α := Route) 48 (fun _ => r1) ([(Route.mk ([(Step.mk 0 0), (Step.mk 2 0)] : List Step) 0)] : List Route) (OkL.cons (fun S w hs => ((Sk.imm (α := List Step) (r := r1) (x := ([(Step.mk 0 0), (Step.mk 2 0)] : List Step)) (by repeat (first | exact Has.head | apply Has.tail))) S w hs)) OkL.nil) (fun r36 => ⟨fun w hm => hm.sub (by repeat (first | exact List.Sublist.refl _ | apply List.Sublist.cons_cons | apply List.Sublist.cons)), ?_⟩))
      obtain ⟨y37, hy38, hM⟩ := bind_some hM
      refine aw_gtrue 19 rfl rfl hg35 (st_callv (fun w hm => let ⟨S, hs⟩ := hm; keep_SameRoutes_spec _ w y12.1 r14 ([(Route.mk ([(Step.mk 0 0), (Step.mk 2 0)] : List Step) 0)] : List Route) r36 y37 hy38 (lend_lt hs) (Kn.lend (Kn.trow (e := 48) (r := r14) (by repeat (first | exact Has.head | apply Has.tail))) hs) (Kn.lend (Kn.trow (e := 48) (r := r36) (by repeat (first | exact Has.head | apply Has.tail))) hs)) ⟨fun w hm => hm.sub (by repeat (first | exact List.Sublist.refl _ | apply List.Sublist.cons_cons | apply List.Sublist.cons)), ?_⟩)
      refine aw_ev 20 rfl ev_and ?_
      refine aw_ev 21 rfl ev_move ?_
      refine aw_evg 23 rfl rfl (ev_load_all (b := b2)) ?_
      refine aw_cases ((false && decide (y12.2.1 = 3)) && y37) (fun hg39 => ?_) (fun hg39 => ?_)
      ·
        replace hM := (ite_t hg39).symm.trans hM
        refine aw_know 47 hg39 rfl ?_
        obtain ⟨y40, hy41, hM⟩ := bind_some hM
        refine aw_gtrue 22 rfl rfl hg39 (st_callF SelL.nil (fun S w hs hP => law7_example_spec _ w  y40 hy41 (lend_lt hs) ) (by intro r c hc; simp only [List.mem_cons, List.not_mem_nil, or_false] at hc; rcases hc with rfl | rfl | rfl | rfl <;> first | exact flatC_own | exact flatC_trow (fun _ _ _ _ => trivial)) (fun r42 => ⟨fun w hm => hm.sub (by repeat (first | exact List.Sublist.refl _ | apply List.Sublist.cons_cons | apply List.Sublist.cons)), ?_⟩))
        dsimp only [List.cons_append, List.nil_append]
        obtain ⟨y43, hy44, hM⟩ := bind_some hM
        refine aw_gtrue 24 rfl rfl hg39 (st_callv (fun w hm => let ⟨S, hs⟩ := hm; route_Check_spec _ w y40 r42 (Route.mk ([(Step.mk 0 0), (Step.mk 2 0)] : List Step) 0) r1 y43 hy44 (lend_lt hs) ⟨(Kn.lend (Kn.trow (e := 9) (r := r42.1) (by repeat (first | exact Has.head | apply Has.tail))) hs), (Kn.lend (Kn.trow (e := 9) (r := r42.2.1) (by repeat (first | exact Has.head | apply Has.tail))) hs), (Kn.lend (Kn.trow (e := 31) (r := r42.2.2.1) (by repeat (first | exact Has.head | apply Has.tail))) hs), (Kn.lend (Kn.trow (e := 91) (r := r42.2.2.2) (by repeat (first | exact Has.head | apply Has.tail))) hs)⟩ (Kn.lend (Kn.imm (α := List Step) (r := r1) (x := ([(Step.mk 0 0), (Step.mk 2 0)] : List Step)) (by repeat (first | exact Has.head | apply Has.tail))) hs)) ⟨fun w hm => hm.sub (by repeat (first | exact List.Sublist.refl _ | apply List.Sublist.cons_cons | apply List.Sublist.cons)), ?_⟩)
        refine aw_evk 25 rfl rfl hg39 ev_eql ?_
        refine aw_ev 26 rfl ev_and ?_
        refine aw_ev 27 rfl ev_assign ?_
        refine aw_done (hK5 _ _ ?_); clear hK5
        obtain rfl := some_inj hM
        refine cw_ret (kw_retc1 (fun w hm => ret_of hm rfl))
      ·
        replace hM := (ite_f hg39).symm.trans hM
        refine aw_gskip 22 rfl rfl hg39 ?_
        refine aw_gskip 24 rfl rfl hg39 ?_
        refine aw_gskip 25 rfl rfl hg39 ?_
        refine aw_ev 26 rfl (ev_andF hg39) ?_
        refine aw_ev 27 rfl ev_assign ?_
        refine aw_done (hK5 _ _ ?_); clear hK5
        obtain rfl := some_inj hM
        refine cw_ret (kw_retc1 (fun w hm => ret_of hm rfl))
    ·
      replace hM := (ite_f hg35).symm.trans hM
      refine aw_gskip 18 rfl rfl hg35 ?_
      refine aw_gskip 19 rfl rfl hg35 ?_
      refine aw_ev 20 rfl (ev_andF hg35) ?_
      refine aw_ev 21 rfl ev_move ?_
      refine aw_evg 23 rfl rfl (ev_load_all (b := b2)) ?_
      refine aw_cases false (fun hg45 => ?_) (fun hg45 => ?_)
      ·
        replace hM := (ite_t hg45).symm.trans hM
        refine aw_know 36 hg45 rfl ?_
        refine aw_know 37 hg45 rfl ?_
        refine aw_know 47 hg45 rfl ?_
        obtain ⟨y46, hy47, hM⟩ := bind_some hM
        refine aw_gtrue 22 rfl rfl hg45 (st_callF SelL.nil (fun S w hs hP => law7_example_spec _ w  y46 hy47 (lend_lt hs) ) (by intro r c hc; simp only [List.mem_cons, List.not_mem_nil, or_false] at hc; rcases hc with rfl | rfl | rfl | rfl <;> first | exact flatC_own | exact flatC_trow (fun _ _ _ _ => trivial)) (fun r48 => ⟨fun w hm => hm.sub (by repeat (first | exact List.Sublist.refl _ | apply List.Sublist.cons_cons | apply List.Sublist.cons)), ?_⟩))
        dsimp only [List.cons_append, List.nil_append]
        obtain ⟨y49, hy50, hM⟩ := bind_some hM
        refine aw_gtrue 24 rfl rfl hg45 (st_callv (fun w hm => let ⟨S, hs⟩ := hm; route_Check_spec _ w y46 r48 (Route.mk ([(Step.mk 0 0), (Step.mk 2 0)] : List Step) 0) r1 y49 hy50 (lend_lt hs) ⟨(Kn.lend (Kn.trow (e := 9) (r := r48.1) (by repeat (first | exact Has.head | apply Has.tail))) hs), (Kn.lend (Kn.trow (e := 9) (r := r48.2.1) (by repeat (first | exact Has.head | apply Has.tail))) hs), (Kn.lend (Kn.trow (e := 31) (r := r48.2.2.1) (by repeat (first | exact Has.head | apply Has.tail))) hs), (Kn.lend (Kn.trow (e := 91) (r := r48.2.2.2) (by repeat (first | exact Has.head | apply Has.tail))) hs)⟩ (Kn.lend (Kn.trow (e := 40) (r := r1) (by repeat (first | exact Has.head | apply Has.tail))) hs)) ⟨fun w hm => hm.sub (by repeat (first | exact List.Sublist.refl _ | apply List.Sublist.cons_cons | apply List.Sublist.cons)), ?_⟩)
        refine aw_evk 25 rfl rfl hg45 ev_eql ?_
        refine aw_ev 26 rfl ev_and ?_
        refine aw_ev 27 rfl ev_assign ?_
        refine aw_done (hK5 _ _ ?_); clear hK5
        obtain rfl := some_inj hM
        refine cw_ret (kw_retc1 (fun w hm => ret_of hm rfl))
      ·
        replace hM := (ite_f hg45).symm.trans hM
        refine aw_gskip 22 rfl rfl hg45 ?_
        refine aw_gskip 24 rfl rfl hg45 ?_
        refine aw_gskip 25 rfl rfl hg45 ?_
        refine aw_ev 26 rfl (ev_andF hg45) ?_
        refine aw_ev 27 rfl ev_assign ?_
        refine aw_done (hK5 _ _ ?_); clear hK5
        obtain rfl := some_inj hM
        refine cw_ret (kw_retc1 (fun w hm => ret_of hm rfl))

end Go.Proofs.Ytnihhidbiepnhaa

/- Models of functions, and that the code computes them. -/
import Derived.Test.YtohhihdjdelckaaDoorLe
import Derived.Test.YtohhihdjdelckaaDoorLg
import Derived.Test.YtohhihdjdelckaaDoorRd
import Derived.Test.YtohhihdjdelckaaDoorRl
namespace Go.Proofs.YtohhihdjdelckaaDoor
open Go.Dc Go.RowKit
set_option maxRecDepth 10000
set_option linter.unusedVariables false
def law4_LayoutTextMutations_m (l0 : List Int) (at0 : Int) (c0 : Int) (cut0 : Bool) : Option Bool :=
  (keep_Layout_m l0).bind fun y1 =>
  (ref1_Format_m y1).bind fun y4 =>
  (keep_Pick_m at0 (y4.l.length : Int)).bind fun y6 =>
  if cut0 then
    ((law4_awake_m).bind fun y9 =>
    (whn y9 default (strSub y4 0 y6)).bind fun q11 =>
    (whn y9 default (law4_parses_m q11)).bind fun y13 =>
    some (y9 && y13))
  else
    ((law4_awake_m).bind fun y15 =>
    (whn y15 default (strSub y4 0 y6)).bind fun q17 =>
    chk (!y15 || i64b (y6 + 1)) <|
    (whn y15 default (strSub y4 (y6 + 1) (y4.l.length : Int))).bind fun q20 =>
    if y15 then
    (chk (u8b c0) <|
    (strCat q17 (⟨([u8 c0] : List UInt8)⟩ : Str)).bind fun q25 =>
    (strCat q25 q20).bind fun q27 =>
    (law4_parses_m q27).bind fun y29 =>
    some (y15 && y29))
    else
    (some false))
theorem law4_LayoutTextMutations_spec (S : Soup) (w : World) (l0 : List Int) (r_l0 : GoRep.R (List Int)) (at0 : Int) (c0 : Int) (cut0 : Bool) (y : Bool) (hM : law4_LayoutTextMutations_m l0 at0 c0 cut0 = some y) (hS : ∀ k, S k → k < w.heap.size) (h_l0 : GoRep.ok S w r_l0 l0) (hg_0 : (imm (α := (List Str)) (⟨some ⟨0, 0, none⟩, 2, fun _ => ()⟩ : SR Unit) ([(⟨[65]⟩ : Str), (⟨[66]⟩ : Str)] : List Str)).φ S w) :
    Calls Tryd.prog 7 #[.slice r_l0.a l0.length r_l0.cap, .int .i64 at0, .int .u8 c0, .bool cut0] w (Ret w (.bool y)) := by
  refine calls_cw (args := [_, _, _, _]) Tryd.func7 rfl ((pre_nil hS).start |>.immP (α := List Int) (r := r_l0) (x := l0) h_l0|>.factP (c := imm (α := (List Str)) (⟨some ⟨0, 0, none⟩, 2, fun _ => ()⟩ : SR Unit) ([(⟨[65]⟩ : Str), (⟨[66]⟩ : Str)] : List Str)) (fun _ h => False.elim h) hg_0) rfl ?_
  unfold law4_LayoutTextMutations_m at hM
  refine cw_seq fun K1 hK1 => ?_
  refine cw_region ?_
  refine ow_ev ev_assign ?_
  refine ow_nil (hK1 _ _ ?_); clear hK1
  refine cw_seq fun K2 hK2 => ?_
  refine cw_region ?_
  refine ow_ev ev_move ?_
  obtain ⟨y1, hy2, hM⟩ := bind_some hM
  refine ow_cons (st_callF SelL.nil (fun S w hs hP => keep_Layout_spec _ w l0 r_l0 y1 hy2 (lend_lt hs) (Kn.lend (Kn.imm (α := List Int) (r := r_l0) (x := l0) (by repeat (first | exact Has.head | apply Has.tail))) hs)) (by intro r c hc; simp only [List.mem_cons, List.not_mem_nil, or_false] at hc; rcases hc with rfl | rfl | rfl | rfl <;> first | exact flatC_own | exact flatC_trow (fun _ _ _ _ => trivial)) (fun r3 => ?_))
  dsimp only [List.cons_append, List.nil_append]
  obtain ⟨y4, hy5, hM⟩ := bind_some hM
  refine ow_cons (st_callv (fun w hm => let ⟨S, hs⟩ := hm; ref1_Format_spec _ w y1 r3 y4 hy5 (lend_lt hs) ⟨(Kn.lend (Kn.trow (e := 9) (r := r3.1) (by repeat (first | exact Has.head | apply Has.tail))) hs), (Kn.lend (Kn.trow (e := 9) (r := r3.2.1) (by repeat (first | exact Has.head | apply Has.tail))) hs), (Kn.lend (Kn.trow (e := 57) (r := r3.2.2.1) (by repeat (first | exact Has.head | apply Has.tail))) hs), (Kn.lend (Kn.trow (e := 72) (r := r3.2.2.2) (by repeat (first | exact Has.head | apply Has.tail))) hs)⟩) ?_)
  refine ow_ev ev_assign ?_
  refine ow_nil (hK2 _ _ ?_); clear hK2
  refine cw_seq fun K3 hK3 => ?_
  refine cw_region ?_
  refine ow_ev ev_move ?_
  refine ow_ev ev_move ?_
  refine ow_ev ev_slen ?_
  obtain ⟨y6, hy7, hM⟩ := bind_some hM
  refine ow_cons (st_callv (fun w hm => let ⟨S, hs⟩ := hm; keep_Pick_spec _ w at0 (y4.l.length : Int) y6 hy7 (lend_lt hs) ) ?_)
  refine ow_ev ev_assign ?_
  refine ow_nil (hK3 _ _ ?_); clear hK3
  refine cw_seq fun K4 hK4 => ?_
  refine cw_seq fun K5 hK5 => ?_
  refine cw_region ?_
  refine ow_ev ev_move ?_
  refine ow_nil (hK5 _ _ ?_); clear hK5
  refine cw_cond rfl (fun hc8 => ?_) (fun hc8 => ?_)
  ·
    replace hM := (ite_t hc8).symm.trans hM
    refine cw_seq fun K6 hK6 => ?_
    refine cw_region ?_
    obtain ⟨y9, hy10, hM⟩ := bind_some hM
    refine ow_cons (st_callv (fun w hm => let ⟨S, hs⟩ := hm; law4_awake_spec _ w  y9 hy10 (lend_lt hs) ) ?_)
    refine ow_ev ev_move ?_
    refine ow_evg rfl ev_move ?_
    refine ow_evg rfl ev_move ?_
    obtain ⟨q11, hq12, hM⟩ := bind_some hM
    refine ow_evg rfl (ev_ssub (ol := none) (oh := some (.i64, y6)) (whn_some hq12)) ?_
    obtain ⟨y13, hy14, hM⟩ := bind_some hM
    refine ow_callg rfl (fun hg w hm => let ⟨S, hs⟩ := hm; law4_parses_spec _ w q11 y13 (whn_some hy14 hg) (lend_lt hs) (Chunk.mono _ _ _ _ (fun _ h => .inl h) (((by repeat (first | exact Has.head | apply Has.tail)) : Has _ (imm (α := (List Str)) (⟨some ⟨0, 0, none⟩, 2, fun _ => ()⟩ : SR Unit) ([(⟨[65]⟩ : Str), (⟨[66]⟩ : Str)] : List Str))).φ hs))) ?_
    refine ow_ev ev_and ?_
    refine ow_ev ev_assign ?_
    refine ow_nil (hK6 _ _ ?_); clear hK6
    obtain rfl := some_inj hM
    refine cw_ret (kw_retc1 (fun w hm => ret_of hm rfl))
  ·
    replace hM := (ite_f hc8).symm.trans hM
    refine cw_skip (hK4 _ _ ?_); clear hK4
    refine cw_seq fun K7 hK7 => ?_
    refine cw_region_any _ (List.Sublist.refl _) ?_
    obtain ⟨y15, hy16, hM⟩ := bind_some hM
    refine aw_one 0 rfl (st_callv (fun w hm => let ⟨S, hs⟩ := hm; law4_awake_spec _ w  y15 hy16 (lend_lt hs) ) ⟨fun w hm => hm.sub (by repeat (first | exact List.Sublist.refl _ | apply List.Sublist.cons_cons | apply List.Sublist.cons)), ?_⟩)
    refine aw_ev 1 rfl ev_move ?_
    refine aw_evg 2 rfl rfl ev_move ?_
    refine aw_evg 3 rfl rfl ev_move ?_
    obtain ⟨q17, hq18, hM⟩ := bind_some hM
    refine aw_evg 4 rfl rfl (ev_ssub (ol := none) (oh := some (.i64, y6)) (whn_some hq18)) ?_
    refine aw_evg 5 rfl rfl ev_move ?_
    refine aw_evg 9 rfl rfl ev_move ?_
    refine aw_evg 10 rfl rfl ev_move ?_
    obtain ⟨hI19, hM⟩ := chk_some hM
    refine aw_evg 11 rfl rfl (ev_add (hr := fun hg => i64b_I64 (gor hI19 hg))) ?_
    obtain ⟨q20, hq21, hM⟩ := bind_some hM
    refine aw_evg 12 rfl rfl (ev_ssub (ol := some (.i64, (y6 + 1))) (oh := none) (whn_some hq21)) ?_
    refine aw_cases y15 (fun hg22 => ?_) (fun hg22 => ?_)
    ·
      replace hM := (ite_t hg22).symm.trans hM
      refine aw_know 28 hg22 rfl ?_
      refine aw_know 29 hg22 rfl ?_
      refine aw_know 30 hg22 rfl ?_
      refine aw_know 31 hg22 rfl ?_
      refine aw_know 35 hg22 rfl ?_
      refine aw_know 36 hg22 rfl ?_
      refine aw_know 37 hg22 rfl ?_
      refine aw_know 38 hg22 rfl ?_
      obtain ⟨hu23, hM⟩ := chk_some hM
      refine aw_same 31 (v' := .int .u8 ((u8 c0).toNat : Int)) rfl (by rw [u8_toNat hu23]) ?_
      refine aw_gtrue 6 rfl rfl hg22 (st_bslice (α := UInt8) 5 (fun _ => ()) ([u8 c0] : List UInt8) (OkL.flat (fun _ _ _ _ => trivial)) (fun r24 => ⟨fun w hm => hm.sub (by repeat (first | exact List.Sublist.refl _ | apply List.Sublist.cons_cons | apply List.Sublist.cons)), ?_⟩))
      refine aw_gtrue 7 rfl rfl hg22 (st_ev (ev_bstr (r := r24) (xs := ([u8 c0] : List UInt8)) (Kn.trow (e := 5) (r := r24) (by repeat (first | exact Has.head | apply Has.tail)))) ⟨fun w hm => hm.sub (by repeat (first | exact List.Sublist.refl _ | apply List.Sublist.cons_cons | apply List.Sublist.cons)), ?_⟩)
      obtain ⟨q25, hq26, hM⟩ := bind_some hM
      refine aw_evk 8 rfl rfl hg22 (ev_scat (fun _ => hq26)) ?_
      obtain ⟨q27, hq28, hM⟩ := bind_some hM
      refine aw_evk 13 rfl rfl hg22 (ev_scat (fun _ => hq28)) ?_
      obtain ⟨y29, hy30, hM⟩ := bind_some hM
      refine aw_gtrue 14 rfl rfl hg22 (st_callv (fun w hm => let ⟨S, hs⟩ := hm; law4_parses_spec _ w q27 y29 hy30 (lend_lt hs) (Chunk.mono _ _ _ _ (fun _ h => .inl h) (((by repeat (first | exact Has.head | apply Has.tail)) : Has _ (imm (α := (List Str)) (⟨some ⟨0, 0, none⟩, 2, fun _ => ()⟩ : SR Unit) ([(⟨[65]⟩ : Str), (⟨[66]⟩ : Str)] : List Str))).φ hs))) ⟨fun w hm => hm.sub (by repeat (first | exact List.Sublist.refl _ | apply List.Sublist.cons_cons | apply List.Sublist.cons)), ?_⟩)
      refine aw_ev 15 rfl ev_and ?_
      refine aw_ev 16 rfl ev_assign ?_
      refine aw_done (hK7 _ _ ?_); clear hK7
      obtain rfl := some_inj hM
      refine cw_ret (kw_retc1 (fun w hm => ret_of hm rfl))
    ·
      replace hM := (ite_f hg22).symm.trans hM
      refine aw_gskip 6 rfl rfl hg22 ?_
      refine aw_gskip 7 rfl rfl hg22 ?_
      refine aw_gskip 8 rfl rfl hg22 ?_
      refine aw_gskip 13 rfl rfl hg22 ?_
      refine aw_gskip 14 rfl rfl hg22 ?_
      refine aw_ev 15 rfl (ev_andF hg22) ?_
      refine aw_ev 16 rfl ev_assign ?_
      refine aw_done (hK7 _ _ ?_); clear hK7
      obtain rfl := some_inj hM
      refine cw_ret (kw_retc1 (fun w hm => ret_of hm rfl))

end Go.Proofs.YtohhihdjdelckaaDoor

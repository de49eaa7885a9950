/- Models of functions, and that the code computes them. -/
import Derived.Test.YtohhihdjdelckaaDoorRk
set_option linter.all false
namespace Go.Proofs.YtohhihdjdelckaaDoor
open Go.Dc Go.RowKit
set_option maxRecDepth 10000
def keep_named_m (front0 : Str) (n0 : Int) : Option Str :=
  chk (i64b ((n0.tmod 10) + 1)) <|
  (strSub (⟨[48, 49, 50, 51, 52, 53, 54, 55, 56, 57]⟩ : Str) (n0.tmod 10) ((n0.tmod 10) + 1)).bind fun q2 =>
  (strCat front0 q2).bind fun q4 =>
  some q4
theorem keep_named_spec (S : Soup) (w : World) (front0 : Str) (n0 : Int) (y : Str) (hM : keep_named_m front0 n0 = some y) (hS : ∀ k, S k → k < w.heap.size)  :
    Calls Tryd.prog 56 #[.string front0.ba, .int .i64 n0] w (Ret w (.string y.ba)) := by
  refine calls_cw (args := [_, _]) Tryd.func56 rfl ((pre_nil hS).start) rfl ?_
  unfold keep_named_m at hM
  refine cw_seq fun K1 hK1 => ?_
  refine cw_region ?_
  refine ow_ev ev_assign ?_
  refine ow_nil (hK1 _ _ ?_); clear hK1
  refine cw_seq fun K2 hK2 => ?_
  refine cw_region ?_
  refine ow_ev ev_move ?_
  refine ow_ev ev_move ?_
  refine ow_ev ev_rem ?_
  refine ow_ev ev_move ?_
  refine ow_ev ev_rem ?_
  obtain ⟨hI1, hM⟩ := chk_some hM
  refine ow_ev (ev_add (hr := fun hg => i64b_I64 hI1)) ?_
  obtain ⟨q2, hq3, hM⟩ := bind_some hM
  refine ow_ev (ev_ssub (ol := some (.i64, (n0.tmod 10))) (oh := some (.i64, ((n0.tmod 10) + 1))) (fun _ => hq3)) ?_
  obtain ⟨q4, hq5, hM⟩ := bind_some hM
  refine ow_ev (ev_scat (fun _ => hq5)) ?_
  refine ow_ev ev_assign ?_
  refine ow_nil (hK2 _ _ ?_); clear hK2
  obtain rfl := some_inj hM
  refine cw_ret (kw_retc1 (fun w hm => ret_of hm rfl))

def keep_Source_section_m (s0 : Keep_Source) (name0 : Str) (station0 : Int) : Option (Section × Int) :=
  (keep_Source_Next_m s0 9).bind fun y2 =>
  chk (i64b (2 + y2.1)) <|
  (keep_Source_Next_m (Keep_Source.mk s0.l y2.2) 7).bind fun y6 =>
  chk (i64b (5000 * y6.1)) <|
  chk (i64b (5000 + (5000 * y6.1))) <|
  (keep_Source_Next_m (Keep_Source.mk s0.l y6.2) 21).bind fun y11 =>
  chk (i64b (y11.1 - 10)) <|
  some ((Section.mk name0 (2 + y2.1) (5000 + (5000 * y6.1)) (y11.1 - 10) station0), y11.2)
theorem keep_Source_section_spec (S : Soup) (w : World) (b_s0 : Nat) (s0 : Keep_Source) (r_s0 : GoRep.R Keep_Source) (name0 : Str) (station0 : Int) (y : Section × Int) (hM : keep_Source_section_m s0 name0 station0 = some y) (hP : Pre S [own b_s0 106 [.slice r_s0.a s0.l.length r_s0.cap, .int .i64 s0.i]] w) (h_s0_0 : GoRep.ok (α := List Int) S w r_s0 s0.l) :
    Calls Tryd.prog 57 #[.pointer (some ⟨b_s0, 0, none⟩), .string name0.ba, .int .i64 station0] w (Post (β := Unit) S [own b_s0 106 [.slice r_s0.a s0.l.length r_s0.cap, .int .i64 s0.i]] (fun g => .agg #[.string y.1.Name.ba, .int .i64 y.1.Length, .int .i64 y.1.Limit, .int .i64 y.1.Grade, .int .i64 y.1.Station]) (fun g => [own b_s0 106 [.slice r_s0.a s0.l.length r_s0.cap, .int .i64 y.2]]) w) := by
  refine calls_cw (args := [_, _, _]) Tryd.func57 rfl (hP.start |>.immP (α := List Int) (r := r_s0) (x := s0.l) h_s0_0) rfl ?_
  unfold keep_Source_section_m at hM
  refine cw_seq fun K1 hK1 => ?_
  refine cw_region ?_
  refine ow_cons (st_alloc rfl (k := fun b1 => ?_))
  refine ow_nil (hK1 _ _ ?_); clear hK1
  refine cw_seq fun K2 hK2 => ?_
  refine cw_region ?_
  refine ow_ev ev_move ?_
  refine ow_ev ev_move ?_
  obtain ⟨y2, hy3, hM⟩ := bind_some hM
  refine ow_cons (st_callF (by repeat (first | exact SelL.nil | (apply SelL.cons; · (repeat (first | exact Sel.head | apply Sel.tail))))) (fun S w hs hP => keep_Source_Next_spec _ w b_s0 s0 r_s0 9 y2 hy3 hP (Kn.lend (Kn.imm (α := List Int) (r := r_s0) (x := s0.l) (by repeat (first | exact Has.head | apply Has.tail))) hs)) (by intro r c hc; simp only [List.mem_cons, List.not_mem_nil, or_false] at hc; rcases hc with rfl <;> first | exact flatC_own | exact flatC_trow (fun _ _ _ _ => trivial)) (fun r4 => ?_))
  dsimp only [List.cons_append, List.nil_append]
  obtain ⟨hI5, hM⟩ := chk_some hM
  refine ow_ev (ev_add (hr := fun hg => i64b_I64 hI5)) ?_
  refine ow_ev ev_move ?_
  obtain ⟨y6, hy7, hM⟩ := bind_some hM
  refine ow_cons (st_callF (by repeat (first | exact SelL.nil | (apply SelL.cons; · (repeat (first | exact Sel.head | apply Sel.tail))))) (fun S w hs hP => keep_Source_Next_spec _ w b_s0 (Keep_Source.mk s0.l y2.2) r_s0 7 y6 hy7 hP (Kn.lend (Kn.imm (α := List Int) (r := r_s0) (x := s0.l) (by repeat (first | exact Has.head | apply Has.tail))) hs)) (by intro r c hc; simp only [List.mem_cons, List.not_mem_nil, or_false] at hc; rcases hc with rfl <;> first | exact flatC_own | exact flatC_trow (fun _ _ _ _ => trivial)) (fun r8 => ?_))
  dsimp only [List.cons_append, List.nil_append]
  obtain ⟨hI9, hM⟩ := chk_some hM
  refine ow_ev (ev_mul (hr := fun hg => i64b_I64 hI9)) ?_
  obtain ⟨hI10, hM⟩ := chk_some hM
  refine ow_ev (ev_add (hr := fun hg => i64b_I64 hI10)) ?_
  refine ow_ev ev_move ?_
  obtain ⟨y11, hy12, hM⟩ := bind_some hM
  refine ow_cons (st_callF (by repeat (first | exact SelL.nil | (apply SelL.cons; · (repeat (first | exact Sel.head | apply Sel.tail))))) (fun S w hs hP => keep_Source_Next_spec _ w b_s0 (Keep_Source.mk s0.l y6.2) r_s0 21 y11 hy12 hP (Kn.lend (Kn.imm (α := List Int) (r := r_s0) (x := s0.l) (by repeat (first | exact Has.head | apply Has.tail))) hs)) (by intro r c hc; simp only [List.mem_cons, List.not_mem_nil, or_false] at hc; rcases hc with rfl <;> first | exact flatC_own | exact flatC_trow (fun _ _ _ _ => trivial)) (fun r13 => ?_))
  dsimp only [List.cons_append, List.nil_append]
  obtain ⟨hI14, hM⟩ := chk_some hM
  refine ow_ev (ev_sub (hr := fun hg => i64b_I64 hI14)) ?_
  refine ow_ev ev_move ?_
  refine ow_ev (ev_build [.string name0.ba, .int .i64 (2 + y2.1), .int .i64 (5000 + (5000 * y6.1)), .int .i64 (y11.1 - 10), .int .i64 station0]) ?_
  refine ow_cons (st_store_all (b := b1) (vs := [.string name0.ba, .int .i64 (2 + y2.1), .int .i64 (5000 + (5000 * y6.1)), .int .i64 (y11.1 - 10), .int .i64 station0]) (k := ?_))
  refine ow_nil (hK2 _ _ ?_); clear hK2
  obtain rfl := some_inj hM
  refine cw_ret (kw_retc1 (fun w hm => post_of () hm rfl))

def keep_builder_add_m (b0 : Keep_builder) (x0 : Section) : Option (Int × (List Section)) :=
  chk (decide ((b0.l.Sections.length + ([x0] : List Section).length) * 48 ≤ 140737488355328)) <|
  chk (i64b (((b0.l.Sections ++ ([x0] : List Section)).length : Int) - 1)) <|
  some ((((b0.l.Sections ++ ([x0] : List Section)).length : Int) - 1), (b0.l.Sections ++ ([x0] : List Section)))
theorem keep_builder_add_spec (S : Soup) (w : World) (b_b0 : Nat) (b0 : Keep_builder) (r_b0 : GoRep.R Keep_builder) (x0 : Section) (y : Int × (List Section)) (hM : keep_builder_add_m b0 x0 = some y) (hP : Pre S [own b_b0 61 [.slice r_b0.1.1.a b0.l.Stations.length r_b0.1.1.cap, .slice r_b0.1.2.1.a b0.l.Points.length r_b0.1.2.1.cap, .slice r_b0.1.2.2.1.a b0.l.Sections.length r_b0.1.2.2.1.cap, .slice r_b0.1.2.2.2.a b0.l.Links.length r_b0.1.2.2.2.cap, .slice r_b0.2.1.a b0.tracks.length r_b0.2.1.cap, .slice r_b0.2.2.1.a b0.between.length r_b0.2.2.1.cap, .slice r_b0.2.2.2.a b0.westward.length r_b0.2.2.2.cap], trow 9 r_b0.1.1 b0.l.Stations, trow 9 r_b0.1.2.1 b0.l.Points, trow 57 r_b0.1.2.2.1 b0.l.Sections, trow 72 r_b0.1.2.2.2 b0.l.Links, trow 31 r_b0.2.1 b0.tracks, trow 31 r_b0.2.2.1 b0.between, trow 31 r_b0.2.2.2 b0.westward] w)  :
    Calls Tryd.prog 58 #[.pointer (some ⟨b_b0, 0, none⟩), .agg #[.string x0.Name.ba, .int .i64 x0.Length, .int .i64 x0.Limit, .int .i64 x0.Grade, .int .i64 x0.Station]] w (Post (β := (SR (GoRep.R Section))) S [own b_b0 61 [.slice r_b0.1.1.a b0.l.Stations.length r_b0.1.1.cap, .slice r_b0.1.2.1.a b0.l.Points.length r_b0.1.2.1.cap, .slice r_b0.1.2.2.1.a b0.l.Sections.length r_b0.1.2.2.1.cap, .slice r_b0.1.2.2.2.a b0.l.Links.length r_b0.1.2.2.2.cap, .slice r_b0.2.1.a b0.tracks.length r_b0.2.1.cap, .slice r_b0.2.2.1.a b0.between.length r_b0.2.2.1.cap, .slice r_b0.2.2.2.a b0.westward.length r_b0.2.2.2.cap], trow 9 r_b0.1.1 b0.l.Stations, trow 9 r_b0.1.2.1 b0.l.Points, trow 57 r_b0.1.2.2.1 b0.l.Sections, trow 72 r_b0.1.2.2.2 b0.l.Links, trow 31 r_b0.2.1 b0.tracks, trow 31 r_b0.2.2.1 b0.between, trow 31 r_b0.2.2.2 b0.westward] (fun g => .int .i64 y.1) (fun g => [own b_b0 61 [.slice r_b0.1.1.a b0.l.Stations.length r_b0.1.1.cap, .slice r_b0.1.2.1.a b0.l.Points.length r_b0.1.2.1.cap, .slice g.a y.2.length g.cap, .slice r_b0.1.2.2.2.a b0.l.Links.length r_b0.1.2.2.2.cap, .slice r_b0.2.1.a b0.tracks.length r_b0.2.1.cap, .slice r_b0.2.2.1.a b0.between.length r_b0.2.2.1.cap, .slice r_b0.2.2.2.a b0.westward.length r_b0.2.2.2.cap], trow 9 r_b0.1.1 b0.l.Stations, trow 9 r_b0.1.2.1 b0.l.Points, trow 57 g y.2, trow 72 r_b0.1.2.2.2 b0.l.Links, trow 31 r_b0.2.1 b0.tracks, trow 31 r_b0.2.2.1 b0.between, trow 31 r_b0.2.2.2 b0.westward]) w) := by
  refine calls_cw (args := [_, _]) Tryd.func58 rfl (hP.start) rfl ?_
  unfold keep_builder_add_m at hM
  refine cw_seq fun K1 hK1 => ?_
  refine cw_region ?_
  refine ow_cons (st_box (l := [.string x0.Name.ba, .int .i64 x0.Length, .int .i64 x0.Limit, .int .i64 x0.Grade, .int .i64 x0.Station]) (k := fun b1 => ?_))
  refine ow_ev ev_assign ?_
  refine ow_nil (hK1 _ _ ?_); clear hK1
  refine cw_seq fun K2 hK2 => ?_
  refine cw_region_z [own b1 57 [.string x0.Name.ba, .int .i64 x0.Length, .int .i64 x0.Limit, .int .i64 x0.Grade, .int .i64 x0.Station], own b_b0 61 [.slice r_b0.1.1.a b0.l.Stations.length r_b0.1.1.cap, .slice r_b0.1.2.1.a b0.l.Points.length r_b0.1.2.1.cap, .slice r_b0.1.2.2.1.a b0.l.Sections.length r_b0.1.2.2.1.cap, .slice r_b0.1.2.2.2.a b0.l.Links.length r_b0.1.2.2.2.cap, .slice r_b0.2.1.a b0.tracks.length r_b0.2.1.cap, .slice r_b0.2.2.1.a b0.between.length r_b0.2.2.1.cap, .slice r_b0.2.2.2.a b0.westward.length r_b0.2.2.2.cap], trow 9 r_b0.1.1 b0.l.Stations, trow 9 r_b0.1.2.1 b0.l.Points, trow 72 r_b0.1.2.2.2 b0.l.Links, trow 31 r_b0.2.1 b0.tracks, trow 31 r_b0.2.2.1 b0.between, trow 31 r_b0.2.2.2 b0.westward] 12 ?_
  refine az_ev 0 rfl ev_move ?_
  refine az_ev 1 rfl ev_move ?_
  refine az_ev 2 rfl ev_nilcheck ?_
  refine az_ev 3 rfl (ev_field_addr 0) ?_
  refine az_ev 4 rfl (ev_field_addr 2) ?_
  refine az_ev 5 rfl (ev_load_own (b := b_b0)) ?_
  refine az_ev 6 rfl (ev_load_all (b := b1)) ?_
  refine az_one 7 rfl (st_bslice (α := Section) 57 (fun _ => ()) ([x0] : List Section) (OkL.flat (fun _ _ _ _ => trivial)) (fun r2 => ⟨fun w hm => hm.sub (by repeat (first | exact List.Sublist.refl _ | apply List.Sublist.cons_cons | apply List.Sublist.cons)), ?_⟩))
  obtain ⟨hb4, hM⟩ := chk_some hM
  refine az_one 8 rfl (st_append (r := r_b0.1.2.2.1) (r2 := r2) (by intro r'; repeat (first | exact Upd.head | apply Upd.tail)) (Kn.trow (e := 57) (r := r2) (by repeat (first | exact Has.head | apply Has.tail))) (OkL.flat (fun _ _ _ _ => trivial)) (of_decide_eq_true hb4) (fun r3 => ⟨fun w hm => hm.sub (by repeat (first | exact List.Sublist.refl _ | apply List.Sublist.cons_cons | apply List.Sublist.cons)), ?_⟩))
  refine az_ev 9 rfl ev_nilcheck ?_
  refine az_ev 10 rfl (ev_field_addr 0) ?_
  refine az_ev 11 rfl (ev_field_addr 2) ?_
  refine az_last rfl (st_store_own (b := b_b0) (l' := [.slice r_b0.1.1.a b0.l.Stations.length r_b0.1.1.cap, .slice r_b0.1.2.1.a b0.l.Points.length r_b0.1.2.1.cap, .slice r3.a ((b0.l.Sections ++ ([x0] : List Section)).length) r3.cap, .slice r_b0.1.2.2.2.a b0.l.Links.length r_b0.1.2.2.2.cap, .slice r_b0.2.1.a b0.tracks.length r_b0.2.1.cap, .slice r_b0.2.2.1.a b0.between.length r_b0.2.2.1.cap, .slice r_b0.2.2.2.a b0.westward.length r_b0.2.2.2.cap]) (k := ?_))
  refine az_done (hK2 _ _ ?_); clear hK2
  refine cw_seq fun K3 hK3 => ?_
  refine cw_region ?_
  refine ow_ev ev_move ?_
  refine ow_ev ev_nilcheck ?_
  refine ow_ev (ev_field_addr 0) ?_
  refine ow_ev (ev_field_addr 2) ?_
  refine ow_ev (ev_load_own (b := b_b0)) ?_
  refine ow_ev ev_len ?_
  obtain ⟨hI5, hM⟩ := chk_some hM
  refine ow_ev (ev_sub (hr := fun hg => i64b_I64 hI5)) ?_
  refine ow_ev ev_assign ?_
  refine ow_nil (hK3 _ _ ?_); clear hK3
  obtain rfl := some_inj hM
  refine cw_ret (kw_retc1 (fun w hm => post_of r3 hm rfl))

def keep_builder_link_m (b0 : Keep_builder) (a0 : Int) (c0 : Int) (point0 : Int) (pos0 : Int) : Option (List Link) :=
  chk (decide ((b0.l.Links.length + ([(Link.mk a0 1 c0 0 point0 pos0)] : List Link).length) * 48 ≤ 140737488355328)) <|
  some (b0.l.Links ++ ([(Link.mk a0 1 c0 0 point0 pos0)] : List Link))
theorem keep_builder_link_spec (S : Soup) (w : World) (b_b0 : Nat) (b0 : Keep_builder) (r_b0 : GoRep.R Keep_builder) (a0 : Int) (c0 : Int) (point0 : Int) (pos0 : Int) (y : (List Link)) (hM : keep_builder_link_m b0 a0 c0 point0 pos0 = some y) (hP : Pre S [own b_b0 61 [.slice r_b0.1.1.a b0.l.Stations.length r_b0.1.1.cap, .slice r_b0.1.2.1.a b0.l.Points.length r_b0.1.2.1.cap, .slice r_b0.1.2.2.1.a b0.l.Sections.length r_b0.1.2.2.1.cap, .slice r_b0.1.2.2.2.a b0.l.Links.length r_b0.1.2.2.2.cap, .slice r_b0.2.1.a b0.tracks.length r_b0.2.1.cap, .slice r_b0.2.2.1.a b0.between.length r_b0.2.2.1.cap, .slice r_b0.2.2.2.a b0.westward.length r_b0.2.2.2.cap], trow 9 r_b0.1.1 b0.l.Stations, trow 9 r_b0.1.2.1 b0.l.Points, trow 57 r_b0.1.2.2.1 b0.l.Sections, trow 72 r_b0.1.2.2.2 b0.l.Links, trow 31 r_b0.2.1 b0.tracks, trow 31 r_b0.2.2.1 b0.between, trow 31 r_b0.2.2.2 b0.westward] w)  :
    Calls Tryd.prog 59 #[.pointer (some ⟨b_b0, 0, none⟩), .int .i64 a0, .int .i64 c0, .int .i64 point0, .int .i64 pos0] w (Post (β := (SR (GoRep.R Link))) S [own b_b0 61 [.slice r_b0.1.1.a b0.l.Stations.length r_b0.1.1.cap, .slice r_b0.1.2.1.a b0.l.Points.length r_b0.1.2.1.cap, .slice r_b0.1.2.2.1.a b0.l.Sections.length r_b0.1.2.2.1.cap, .slice r_b0.1.2.2.2.a b0.l.Links.length r_b0.1.2.2.2.cap, .slice r_b0.2.1.a b0.tracks.length r_b0.2.1.cap, .slice r_b0.2.2.1.a b0.between.length r_b0.2.2.1.cap, .slice r_b0.2.2.2.a b0.westward.length r_b0.2.2.2.cap], trow 9 r_b0.1.1 b0.l.Stations, trow 9 r_b0.1.2.1 b0.l.Points, trow 57 r_b0.1.2.2.1 b0.l.Sections, trow 72 r_b0.1.2.2.2 b0.l.Links, trow 31 r_b0.2.1 b0.tracks, trow 31 r_b0.2.2.1 b0.between, trow 31 r_b0.2.2.2 b0.westward] (fun g => .tuple #[]) (fun g => [own b_b0 61 [.slice r_b0.1.1.a b0.l.Stations.length r_b0.1.1.cap, .slice r_b0.1.2.1.a b0.l.Points.length r_b0.1.2.1.cap, .slice r_b0.1.2.2.1.a b0.l.Sections.length r_b0.1.2.2.1.cap, .slice g.a y.length g.cap, .slice r_b0.2.1.a b0.tracks.length r_b0.2.1.cap, .slice r_b0.2.2.1.a b0.between.length r_b0.2.2.1.cap, .slice r_b0.2.2.2.a b0.westward.length r_b0.2.2.2.cap], trow 9 r_b0.1.1 b0.l.Stations, trow 9 r_b0.1.2.1 b0.l.Points, trow 57 r_b0.1.2.2.1 b0.l.Sections, trow 72 g y, trow 31 r_b0.2.1 b0.tracks, trow 31 r_b0.2.2.1 b0.between, trow 31 r_b0.2.2.2 b0.westward]) w) := by
  refine calls_cw (args := [_, _, _, _, _]) Tryd.func59 rfl (hP.start) rfl ?_
  unfold keep_builder_link_m at hM
  refine cw_region ?_
  refine ow_ev ev_move ?_
  refine ow_ev ev_move ?_
  refine ow_ev ev_nilcheck ?_
  refine ow_ev (ev_field_addr 0) ?_
  refine ow_ev (ev_field_addr 3) ?_
  refine ow_ev (ev_load_own (b := b_b0)) ?_
  refine ow_ev ev_move ?_
  refine ow_ev ev_move ?_
  refine ow_ev ev_move ?_
  refine ow_ev ev_move ?_
  refine ow_ev (ev_build [.int .i64 a0, .int .i64 1, .int .i64 c0, .int .i64 0, .int .i64 point0, .int .i64 pos0]) ?_
  refine ow_cons (st_bslice (α := Link) 72 (fun _ => ()) ([(Link.mk a0 1 c0 0 point0 pos0)] : List Link) (OkL.flat (fun _ _ _ _ => trivial)) (fun r1 => ?_))
  obtain ⟨hb3, hM⟩ := chk_some hM
  refine ow_cons (st_append (r := r_b0.1.2.2.2) (r2 := r1) (by intro r'; repeat (first | exact Upd.head | apply Upd.tail)) (Kn.trow (e := 72) (r := r1) (by repeat (first | exact Has.head | apply Has.tail))) (OkL.flat (fun _ _ _ _ => trivial)) (of_decide_eq_true hb3) (fun r2 => ?_))
  refine ow_ev ev_nilcheck ?_
  refine ow_ev (ev_field_addr 0) ?_
  refine ow_ev (ev_field_addr 3) ?_
  refine ow_cons (st_store_own (b := b_b0) (l' := [.slice r_b0.1.1.a b0.l.Stations.length r_b0.1.1.cap, .slice r_b0.1.2.1.a b0.l.Points.length r_b0.1.2.1.cap, .slice r_b0.1.2.2.1.a b0.l.Sections.length r_b0.1.2.2.1.cap, .slice r2.a ((b0.l.Links ++ ([(Link.mk a0 1 c0 0 point0 pos0)] : List Link)).length) r2.cap, .slice r_b0.2.1.a b0.tracks.length r_b0.2.1.cap, .slice r_b0.2.2.1.a b0.between.length r_b0.2.2.1.cap, .slice r_b0.2.2.2.a b0.westward.length r_b0.2.2.2.cap]) (k := ?_))
  obtain rfl := some_inj hM
  refine ow_nil (kw_end0 rfl (fun w hm => post_of r2 hm rfl))

def keep_builder_point_m (b0 : Keep_builder) : Option (Int × (List Str)) :=
  (keep_named_m (⟨[80]⟩ : Str) (b0.l.Points.length : Int)).bind fun y1 =>
  chk (decide ((b0.l.Points.length + ([y1] : List Str).length) * 16 ≤ 140737488355328)) <|
  chk (i64b (((b0.l.Points ++ ([y1] : List Str)).length : Int) - 1)) <|
  some ((((b0.l.Points ++ ([y1] : List Str)).length : Int) - 1), (b0.l.Points ++ ([y1] : List Str)))
theorem keep_builder_point_spec (S : Soup) (w : World) (b_b0 : Nat) (b0 : Keep_builder) (r_b0 : GoRep.R Keep_builder) (y : Int × (List Str)) (hM : keep_builder_point_m b0 = some y) (hP : Pre S [own b_b0 61 [.slice r_b0.1.1.a b0.l.Stations.length r_b0.1.1.cap, .slice r_b0.1.2.1.a b0.l.Points.length r_b0.1.2.1.cap, .slice r_b0.1.2.2.1.a b0.l.Sections.length r_b0.1.2.2.1.cap, .slice r_b0.1.2.2.2.a b0.l.Links.length r_b0.1.2.2.2.cap, .slice r_b0.2.1.a b0.tracks.length r_b0.2.1.cap, .slice r_b0.2.2.1.a b0.between.length r_b0.2.2.1.cap, .slice r_b0.2.2.2.a b0.westward.length r_b0.2.2.2.cap], trow 9 r_b0.1.1 b0.l.Stations, trow 9 r_b0.1.2.1 b0.l.Points, trow 57 r_b0.1.2.2.1 b0.l.Sections, trow 72 r_b0.1.2.2.2 b0.l.Links, trow 31 r_b0.2.1 b0.tracks, trow 31 r_b0.2.2.1 b0.between, trow 31 r_b0.2.2.2 b0.westward] w)  :
    Calls Tryd.prog 80 #[.pointer (some ⟨b_b0, 0, none⟩)] w (Post (β := (SR (GoRep.R Str))) S [own b_b0 61 [.slice r_b0.1.1.a b0.l.Stations.length r_b0.1.1.cap, .slice r_b0.1.2.1.a b0.l.Points.length r_b0.1.2.1.cap, .slice r_b0.1.2.2.1.a b0.l.Sections.length r_b0.1.2.2.1.cap, .slice r_b0.1.2.2.2.a b0.l.Links.length r_b0.1.2.2.2.cap, .slice r_b0.2.1.a b0.tracks.length r_b0.2.1.cap, .slice r_b0.2.2.1.a b0.between.length r_b0.2.2.1.cap, .slice r_b0.2.2.2.a b0.westward.length r_b0.2.2.2.cap], trow 9 r_b0.1.1 b0.l.Stations, trow 9 r_b0.1.2.1 b0.l.Points, trow 57 r_b0.1.2.2.1 b0.l.Sections, trow 72 r_b0.1.2.2.2 b0.l.Links, trow 31 r_b0.2.1 b0.tracks, trow 31 r_b0.2.2.1 b0.between, trow 31 r_b0.2.2.2 b0.westward] (fun g => .int .i64 y.1) (fun g => [own b_b0 61 [.slice r_b0.1.1.a b0.l.Stations.length r_b0.1.1.cap, .slice g.a y.2.length g.cap, .slice r_b0.1.2.2.1.a b0.l.Sections.length r_b0.1.2.2.1.cap, .slice r_b0.1.2.2.2.a b0.l.Links.length r_b0.1.2.2.2.cap, .slice r_b0.2.1.a b0.tracks.length r_b0.2.1.cap, .slice r_b0.2.2.1.a b0.between.length r_b0.2.2.1.cap, .slice r_b0.2.2.2.a b0.westward.length r_b0.2.2.2.cap], trow 9 r_b0.1.1 b0.l.Stations, trow 9 g y.2, trow 57 r_b0.1.2.2.1 b0.l.Sections, trow 72 r_b0.1.2.2.2 b0.l.Links, trow 31 r_b0.2.1 b0.tracks, trow 31 r_b0.2.2.1 b0.between, trow 31 r_b0.2.2.2 b0.westward]) w) := by
  refine calls_cw (args := [_]) Tryd.func80 rfl (hP.start) rfl ?_
  unfold keep_builder_point_m at hM
  refine cw_seq fun K1 hK1 => ?_
  refine cw_region ?_
  refine ow_ev ev_assign ?_
  refine ow_nil (hK1 _ _ ?_); clear hK1
  refine cw_seq fun K2 hK2 => ?_
  refine cw_region_z [own b_b0 61 [.slice r_b0.1.1.a b0.l.Stations.length r_b0.1.1.cap, .slice r_b0.1.2.1.a b0.l.Points.length r_b0.1.2.1.cap, .slice r_b0.1.2.2.1.a b0.l.Sections.length r_b0.1.2.2.1.cap, .slice r_b0.1.2.2.2.a b0.l.Links.length r_b0.1.2.2.2.cap, .slice r_b0.2.1.a b0.tracks.length r_b0.2.1.cap, .slice r_b0.2.2.1.a b0.between.length r_b0.2.2.1.cap, .slice r_b0.2.2.2.a b0.westward.length r_b0.2.2.2.cap], trow 9 r_b0.1.1 b0.l.Stations, trow 57 r_b0.1.2.2.1 b0.l.Sections, trow 72 r_b0.1.2.2.2 b0.l.Links, trow 31 r_b0.2.1 b0.tracks, trow 31 r_b0.2.2.1 b0.between, trow 31 r_b0.2.2.2 b0.westward] 18 ?_
  refine az_ev 0 rfl ev_move ?_
  refine az_ev 1 rfl ev_move ?_
  refine az_ev 2 rfl ev_nilcheck ?_
  refine az_ev 3 rfl (ev_field_addr 0) ?_
  refine az_ev 4 rfl (ev_field_addr 1) ?_
  refine az_ev 5 rfl (ev_load_own (b := b_b0)) ?_
  refine az_ev 6 rfl ev_move ?_
  refine az_ev 7 rfl ev_nilcheck ?_
  refine az_ev 8 rfl (ev_field_addr 0) ?_
  refine az_ev 9 rfl (ev_field_addr 1) ?_
  refine az_ev 10 rfl (ev_load_own (b := b_b0)) ?_
  refine az_one 11 rfl (st_ev ev_len ⟨fun w hm => hm.sub (by repeat (first | exact List.Sublist.refl _ | apply List.Sublist.cons_cons | apply List.Sublist.cons)), ?_⟩)
  obtain ⟨y1, hy2, hM⟩ := bind_some hM
  refine az_one 12 rfl (st_callv (fun w hm => let ⟨S, hs⟩ := hm; keep_named_spec _ w (⟨[80]⟩ : Str) (b0.l.Points.length : Int) y1 hy2 (lend_lt hs) ) ⟨fun w hm => hm.sub (by repeat (first | exact List.Sublist.refl _ | apply List.Sublist.cons_cons | apply List.Sublist.cons)), ?_⟩)
  refine az_one 13 rfl (st_bslice (α := Str) 9 (fun _ => ()) ([y1] : List Str) (OkL.flat (fun _ _ _ _ => trivial)) (fun r3 => ⟨fun w hm => hm.sub (by repeat (first | exact List.Sublist.refl _ | apply List.Sublist.cons_cons | apply List.Sublist.cons)), ?_⟩))
  obtain ⟨hb5, hM⟩ := chk_some hM
  refine az_one 14 rfl (st_append (r := r_b0.1.2.1) (r2 := r3) (by intro r'; repeat (first | exact Upd.head | apply Upd.tail)) (Kn.trow (e := 9) (r := r3) (by repeat (first | exact Has.head | apply Has.tail))) (OkL.flat (fun _ _ _ _ => trivial)) (of_decide_eq_true hb5) (fun r4 => ⟨fun w hm => hm.sub (by repeat (first | exact List.Sublist.refl _ | apply List.Sublist.cons_cons | apply List.Sublist.cons)), ?_⟩))
  refine az_ev 15 rfl ev_nilcheck ?_
  refine az_ev 16 rfl (ev_field_addr 0) ?_
  refine az_ev 17 rfl (ev_field_addr 1) ?_
  refine az_last rfl (st_store_own (b := b_b0) (l' := [.slice r_b0.1.1.a b0.l.Stations.length r_b0.1.1.cap, .slice r4.a ((b0.l.Points ++ ([y1] : List Str)).length) r4.cap, .slice r_b0.1.2.2.1.a b0.l.Sections.length r_b0.1.2.2.1.cap, .slice r_b0.1.2.2.2.a b0.l.Links.length r_b0.1.2.2.2.cap, .slice r_b0.2.1.a b0.tracks.length r_b0.2.1.cap, .slice r_b0.2.2.1.a b0.between.length r_b0.2.2.1.cap, .slice r_b0.2.2.2.a b0.westward.length r_b0.2.2.2.cap]) (k := ?_))
  refine az_done (hK2 _ _ ?_); clear hK2
  refine cw_seq fun K3 hK3 => ?_
  refine cw_region ?_
  refine ow_ev ev_move ?_
  refine ow_ev ev_nilcheck ?_
  refine ow_ev (ev_field_addr 0) ?_
  refine ow_ev (ev_field_addr 1) ?_
  refine ow_ev (ev_load_own (b := b_b0)) ?_
  refine ow_ev ev_len ?_
  obtain ⟨hI6, hM⟩ := chk_some hM
  refine ow_ev (ev_sub (hr := fun hg => i64b_I64 hI6)) ?_
  refine ow_ev ev_assign ?_
  refine ow_nil (hK3 _ _ ?_); clear hK3
  obtain rfl := some_inj hM
  refine cw_ret (kw_retc1 (fun w hm => post_of r4 hm rfl))

def keep_builder_fan_k2 (cont1 : ((List Link) × Nat) → Option ((List Str) × (List Link))) (t17_1 : Nat) : (List Link) → Option ((List Str) × (List Link)) := fun lb_b0_j2_3 =>
  cont1 (lb_b0_j2_3, t17_1 + 1)
def keep_builder_fan_b1 (tracks0 : List Int) (east0 : Bool) (b0 : Keep_builder) (lb_b0_j1_1 : List Str) (x0 : Int) (p_j1 : Int) (cont1 : ((List Link) × Nat) → Option ((List Str) × (List Link))) : ((List Link) × Nat) → Option ((List Str) × (List Link)) := fun (lb_b0_1_3, t17_1) =>
  if decide ((t17_1 : Int) < (tracks0.length : Int)) then
    (if east0 then
      ((idx tracks0 (t17_1 : Int)).bind fun x4 =>
      (keep_builder_link_m (Keep_builder.mk (Layout.mk b0.l.Stations lb_b0_j1_1 b0.l.Sections lb_b0_1_3) b0.tracks b0.between b0.westward) x0 x4 p_j1 (t17_1 : Int)).bind fun y6 =>
      keep_builder_fan_k2 cont1 t17_1 y6)
    else
      ((idx tracks0 (t17_1 : Int)).bind fun x9 =>
      (keep_builder_link_m (Keep_builder.mk (Layout.mk b0.l.Stations lb_b0_j1_1 b0.l.Sections lb_b0_1_3) b0.tracks b0.between b0.westward) x9 x0 p_j1 (t17_1 : Int)).bind fun y11 =>
      keep_builder_fan_k2 cont1 t17_1 y11))
  else
    (some (lb_b0_j1_1, lb_b0_1_3))
def keep_builder_fan_k1 (tracks0 : List Int) (east0 : Bool) (b0 : Keep_builder) (x0 : Int) : ((List Str) × Int) → Option ((List Str) × (List Link)) := fun (lb_b0_j1_1, p_j1) =>
  iter (keep_builder_fan_b1 tracks0 east0 b0 lb_b0_j1_1 x0 p_j1) FUEL (b0.l.Links, 0)
def keep_builder_fan_m (b0 : Keep_builder) (x0 : Int) (tracks0 : List Int) (east0 : Bool) : Option ((List Str) × (List Link)) :=
  if decide (1 < (tracks0.length : Int)) then
    ((keep_builder_point_m b0).bind fun y15 =>
    keep_builder_fan_k1 tracks0 east0 b0 x0 (y15.2, y15.1))
  else
    (keep_builder_fan_k1 tracks0 east0 b0 x0 (b0.l.Points, (-1)))
theorem keep_builder_fan_spec (S : Soup) (w : World) (b_b0 : Nat) (b0 : Keep_builder) (r_b0 : GoRep.R Keep_builder) (x0 : Int) (tracks0 : List Int) (r_tracks0 : GoRep.R (List Int)) (east0 : Bool) (y : (List Str) × (List Link)) (hM : keep_builder_fan_m b0 x0 tracks0 east0 = some y) (hP : Pre S [own b_b0 61 [.slice r_b0.1.1.a b0.l.Stations.length r_b0.1.1.cap, .slice r_b0.1.2.1.a b0.l.Points.length r_b0.1.2.1.cap, .slice r_b0.1.2.2.1.a b0.l.Sections.length r_b0.1.2.2.1.cap, .slice r_b0.1.2.2.2.a b0.l.Links.length r_b0.1.2.2.2.cap, .slice r_b0.2.1.a b0.tracks.length r_b0.2.1.cap, .slice r_b0.2.2.1.a b0.between.length r_b0.2.2.1.cap, .slice r_b0.2.2.2.a b0.westward.length r_b0.2.2.2.cap], trow 9 r_b0.1.1 b0.l.Stations, trow 9 r_b0.1.2.1 b0.l.Points, trow 57 r_b0.1.2.2.1 b0.l.Sections, trow 72 r_b0.1.2.2.2 b0.l.Links, trow 31 r_b0.2.1 b0.tracks, trow 31 r_b0.2.2.1 b0.between, trow 31 r_b0.2.2.2 b0.westward] w) (h_tracks0 : GoRep.ok S w r_tracks0 tracks0) :
    Calls Tryd.prog 60 #[.pointer (some ⟨b_b0, 0, none⟩), .int .i64 x0, .slice r_tracks0.a tracks0.length r_tracks0.cap, .bool east0] w (Post (β := (SR (GoRep.R Str)) × (SR (GoRep.R Link))) S [own b_b0 61 [.slice r_b0.1.1.a b0.l.Stations.length r_b0.1.1.cap, .slice r_b0.1.2.1.a b0.l.Points.length r_b0.1.2.1.cap, .slice r_b0.1.2.2.1.a b0.l.Sections.length r_b0.1.2.2.1.cap, .slice r_b0.1.2.2.2.a b0.l.Links.length r_b0.1.2.2.2.cap, .slice r_b0.2.1.a b0.tracks.length r_b0.2.1.cap, .slice r_b0.2.2.1.a b0.between.length r_b0.2.2.1.cap, .slice r_b0.2.2.2.a b0.westward.length r_b0.2.2.2.cap], trow 9 r_b0.1.1 b0.l.Stations, trow 9 r_b0.1.2.1 b0.l.Points, trow 57 r_b0.1.2.2.1 b0.l.Sections, trow 72 r_b0.1.2.2.2 b0.l.Links, trow 31 r_b0.2.1 b0.tracks, trow 31 r_b0.2.2.1 b0.between, trow 31 r_b0.2.2.2 b0.westward] (fun g => .tuple #[]) (fun g => [own b_b0 61 [.slice r_b0.1.1.a b0.l.Stations.length r_b0.1.1.cap, .slice g.1.a y.1.length g.1.cap, .slice r_b0.1.2.2.1.a b0.l.Sections.length r_b0.1.2.2.1.cap, .slice g.2.a y.2.length g.2.cap, .slice r_b0.2.1.a b0.tracks.length r_b0.2.1.cap, .slice r_b0.2.2.1.a b0.between.length r_b0.2.2.1.cap, .slice r_b0.2.2.2.a b0.westward.length r_b0.2.2.2.cap], trow 9 r_b0.1.1 b0.l.Stations, trow 9 g.1 y.1, trow 57 r_b0.1.2.2.1 b0.l.Sections, trow 72 g.2 y.2, trow 31 r_b0.2.1 b0.tracks, trow 31 r_b0.2.2.1 b0.between, trow 31 r_b0.2.2.2 b0.westward]) w) := by
  refine calls_cw (args := [_, _, _, _]) Tryd.func60 rfl (hP.start |>.immP (α := List Int) (r := r_tracks0) (x := tracks0) h_tracks0) rfl ?_
  unfold keep_builder_fan_m at hM
  refine cw_seq fun K1 hK1 => ?_
  refine cw_region ?_
  refine ow_ev ev_assign ?_
  refine ow_nil (hK1 _ _ ?_); clear hK1
  refine cw_cut (γ := ((List Str) × Int) × (SR (GoRep.R Str))) (env := fun ((lb_b0_j1_1, p_j1), rb_b0_j1_1) => [(0, .v (.pointer (some ⟨b_b0, 0, none⟩))), (1, .v (.int .i64 x0)), (2, .v (.slice r_tracks0.a tracks0.length r_tracks0.cap)), (3, .v (.bool east0)), (8, .v (.int .i64 p_j1))]) (mem := fun ((lb_b0_j1_1, p_j1), rb_b0_j1_1) => [trow 9 r_b0.1.1 b0.l.Stations, trow 9 rb_b0_j1_1 lb_b0_j1_1, trow 57 r_b0.1.2.2.1 b0.l.Sections, trow 72 r_b0.1.2.2.2 b0.l.Links, trow 31 r_b0.2.1 b0.tracks, trow 31 r_b0.2.2.1 b0.between, trow 31 r_b0.2.2.2 b0.westward, own b_b0 61 [.slice r_b0.1.1.a b0.l.Stations.length r_b0.1.1.cap, .slice rb_b0_j1_1.a lb_b0_j1_1.length rb_b0_j1_1.cap, .slice r_b0.1.2.2.1.a b0.l.Sections.length r_b0.1.2.2.1.cap, .slice r_b0.1.2.2.2.a b0.l.Links.length r_b0.1.2.2.2.cap, .slice r_b0.2.1.a b0.tracks.length r_b0.2.1.cap, .slice r_b0.2.2.1.a b0.between.length r_b0.2.2.1.cap, .slice r_b0.2.2.2.a b0.westward.length r_b0.2.2.2.cap], imm (α := (List Int)) r_tracks0 tracks0]) (R := fun g => keep_builder_fan_k1 tracks0 east0 b0 x0 g.1 = some y) ?_ ?_
  · intro KJ1 hJ1
    refine cw_seq fun K7 hK7 => ?_
    refine cw_region ?_
    refine ow_ev ev_move ?_
    refine ow_ev ev_len ?_
    refine ow_ev ev_gtr ?_
    refine ow_nil (hK7 _ _ ?_); clear hK7
    refine cw_cond rfl (fun hc14 => ?_) (fun hc14 => ?_)
    ·
      replace hM := (ite_t hc14).symm.trans hM
      refine cw_region ?_
      refine ow_ev ev_move ?_
      obtain ⟨y15, hy16, hM⟩ := bind_some hM
      refine ow_cons (st_callS (by repeat (first | exact SelL.nil | (apply SelL.cons; · (repeat (first | exact Sel.head | apply Sel.tail))))) (fun S w hs hP => keep_builder_point_spec _ w b_b0 b0 r_b0 y15 hy16 hP )  (fun r17 => ?_))
      dsimp only [List.cons_append, List.nil_append]
      refine ow_ev ev_assign ?_
      refine ow_nil (hJ1 ((y15.2, y15.1), r17) _ _ hM ⟨rfl, rfl, rfl, rfl, rfl, trivial⟩ (fun w hm => hm.reord))
    ·
      replace hM := (ite_f hc14).symm.trans hM
      refine cw_skip (hJ1 ((b0.l.Points, (-1)), r_b0.1.2.1) _ _ hM ⟨rfl, rfl, rfl, rfl, rfl, trivial⟩ (fun w hm => hm.reord))
  ·
    clear hM
    intro g hM
    obtain ⟨⟨lb_b0_j1_1, p_j1⟩, rb_b0_j1_1⟩ := g
    dsimp only at hM ⊢
    dsimp only [keep_builder_fan_k1] at hM
    refine cw_seq fun K2 hK2 => ?_
    refine cw_region ?_
    refine ow_ev ev_move ?_
    refine ow_have (fun w hm => Kn.len (Kn.imm (α := List Int) (r := r_tracks0) (x := tracks0) (by repeat (first | exact Has.head | apply Has.tail))) hm) fun hl1 => ?_
    refine ow_ev ev_len ?_
    refine ow_ev ev_move ?_
    refine ow_nil (hK2 _ _ ?_); clear hK2
    refine cw_block ?_
    refine cw_loop (γ := Nat × ((List Link) × Nat) × (SR (GoRep.R Link))) (env := fun (_, (lb_b0_1_3, t17_1), rb_b0_1_3) => [(0, .v (.pointer (some ⟨b_b0, 0, none⟩))), (1, .v (.int .i64 x0)), (2, .v (.slice r_tracks0.a tracks0.length r_tracks0.cap)), (3, .v (.bool east0)), (8, .v (.int .i64 p_j1)), (16, .v (.int .i64 (tracks0.length : Int))), (17, .v (.int .i64 (t17_1 : Int)))]) (mem := fun (_, (lb_b0_1_3, t17_1), rb_b0_1_3) => [trow 9 r_b0.1.1 b0.l.Stations, trow 9 rb_b0_j1_1 lb_b0_j1_1, trow 57 r_b0.1.2.2.1 b0.l.Sections, trow 72 rb_b0_1_3 lb_b0_1_3, trow 31 r_b0.2.1 b0.tracks, trow 31 r_b0.2.2.1 b0.between, trow 31 r_b0.2.2.2 b0.westward, own b_b0 61 [.slice r_b0.1.1.a b0.l.Stations.length r_b0.1.1.cap, .slice rb_b0_j1_1.a lb_b0_j1_1.length rb_b0_j1_1.cap, .slice r_b0.1.2.2.1.a b0.l.Sections.length r_b0.1.2.2.1.cap, .slice rb_b0_1_3.a lb_b0_1_3.length rb_b0_1_3.cap, .slice r_b0.2.1.a b0.tracks.length r_b0.2.1.cap, .slice r_b0.2.2.1.a b0.between.length r_b0.2.2.1.cap, .slice r_b0.2.2.2.a b0.westward.length r_b0.2.2.2.cap], imm (α := (List Int)) r_tracks0 tracks0]) (R := fun g => iter (keep_builder_fan_b1 tracks0 east0 b0 lb_b0_j1_1 x0 p_j1) g.1 g.2.1 = some y) (μ := fun g => g.1) (FUEL, (b0.l.Links, 0), r_b0.1.2.2.2) hM ⟨rfl, rfl, rfl, rfl, rfl, rfl, rfl, trivial⟩ (fun w hm => hm.reord) ?_
    clear hM
    intro g hM KL1 hL1
    obtain ⟨nn1, ⟨lb_b0_1_3, t17_1⟩, rb_b0_1_3⟩ := g
    dsimp only at hM ⊢
    obtain ⟨nn1, cont1, rfl, hcont1, hM⟩ := iter_open' hM
    dsimp only [keep_builder_fan_b1] at hM
    refine cw_seq fun K3 hK3 => ?_
    refine cw_region ?_
    refine ow_ev ev_lss ?_
    refine ow_nil (hK3 _ _ ?_); clear hK3
    refine cw_seq fun K4 hK4 => ?_
    refine cw_cond rfl (fun hc2 => ?_) (fun hc2 => ?_)
    ·
      replace hM := (ite_t hc2).symm.trans hM
      have hc2d := of_decide_eq_true hc2
      refine cw_skip (hK4 _ _ ?_); clear hK4
      refine cw_cut (γ := (List Link) × (SR (GoRep.R Link))) (env := fun (lb_b0_j2_3, rb_b0_j2_3) => [(0, .v (.pointer (some ⟨b_b0, 0, none⟩))), (1, .v (.int .i64 x0)), (2, .v (.slice r_tracks0.a tracks0.length r_tracks0.cap)), (3, .v (.bool east0)), (8, .v (.int .i64 p_j1)), (16, .v (.int .i64 (tracks0.length : Int))), (17, .v (.int .i64 (t17_1 : Int)))]) (mem := fun (lb_b0_j2_3, rb_b0_j2_3) => [trow 9 r_b0.1.1 b0.l.Stations, trow 9 rb_b0_j1_1 lb_b0_j1_1, trow 57 r_b0.1.2.2.1 b0.l.Sections, trow 72 rb_b0_j2_3 lb_b0_j2_3, trow 31 r_b0.2.1 b0.tracks, trow 31 r_b0.2.2.1 b0.between, trow 31 r_b0.2.2.2 b0.westward, own b_b0 61 [.slice r_b0.1.1.a b0.l.Stations.length r_b0.1.1.cap, .slice rb_b0_j1_1.a lb_b0_j1_1.length rb_b0_j1_1.cap, .slice r_b0.1.2.2.1.a b0.l.Sections.length r_b0.1.2.2.1.cap, .slice rb_b0_j2_3.a lb_b0_j2_3.length rb_b0_j2_3.cap, .slice r_b0.2.1.a b0.tracks.length r_b0.2.1.cap, .slice r_b0.2.2.1.a b0.between.length r_b0.2.2.1.cap, .slice r_b0.2.2.2.a b0.westward.length r_b0.2.2.2.cap], imm (α := (List Int)) r_tracks0 tracks0]) (R := fun g => keep_builder_fan_k2 cont1 t17_1 g.1 = some y) ?_ ?_
      · intro KJ2 hJ2
        refine cw_block ?_
        refine cw_seq fun K5 hK5 => ?_
        refine cw_region ?_
        refine ow_ev ev_move ?_
        refine ow_ev ev_assign ?_
        refine ow_nil (hK5 _ _ ?_); clear hK5
        refine cw_seq fun K6 hK6 => ?_
        refine cw_region ?_
        refine ow_ev ev_move ?_
        refine ow_nil (hK6 _ _ ?_); clear hK6
        refine cw_cond rfl (fun hc3 => ?_) (fun hc3 => ?_)
        ·
          replace hM := (ite_t hc3).symm.trans hM
          refine cw_region ?_
          refine ow_ev ev_move ?_
          refine ow_ev ev_move ?_
          refine ow_ev ev_move ?_
          refine ow_ev ev_move ?_
          obtain ⟨x4, hx5, hM⟩ := bind_some hM
          refine ow_ev (ev_idx (xs := tracks0) 1 (Kn.imm (α := List Int) (r := r_tracks0) (x := tracks0) (by repeat (first | exact Has.head | apply Has.tail))) (fun hg => let h := idx_some hx5; ⟨h.1, h.2.1⟩)) ?_
          refine ow_ev (ev_ld (i := (t17_1 : Int)) (xs := tracks0) (y := x4) 0 (Kn.imm (α := List Int) (r := r_tracks0) (x := tracks0) (by repeat (first | exact Has.head | apply Has.tail))) (fun _ => hx5)) ?_
          refine ow_ev ev_move ?_
          refine ow_ev ev_move ?_
          obtain ⟨y6, hy7, hM⟩ := bind_some hM
          refine ow_cons (st_callS (by repeat (first | exact SelL.nil | (apply SelL.cons; · (repeat (first | exact Sel.head | apply Sel.tail))))) (fun S w hs hP => keep_builder_link_spec _ w b_b0 (Keep_builder.mk (Layout.mk b0.l.Stations lb_b0_j1_1 b0.l.Sections lb_b0_1_3) b0.tracks b0.between b0.westward) ((r_b0.1.1, rb_b0_j1_1, r_b0.1.2.2.1, rb_b0_1_3), r_b0.2.1, r_b0.2.2.1, r_b0.2.2.2) x0 x4 p_j1 (t17_1 : Int) y6 hy7 hP )  (fun r8 => ?_))
          dsimp only [List.cons_append, List.nil_append]
          refine ow_nil (hJ2 (y6, r8) _ _ hM ⟨rfl, rfl, rfl, rfl, rfl, rfl, rfl, trivial⟩ (fun w hm => hm.reord))
        ·
          replace hM := (ite_f hc3).symm.trans hM
          refine cw_region ?_
          refine ow_ev ev_move ?_
          refine ow_ev ev_move ?_
          refine ow_ev ev_move ?_
          obtain ⟨x9, hx10, hM⟩ := bind_some hM
          refine ow_ev (ev_idx (xs := tracks0) 1 (Kn.imm (α := List Int) (r := r_tracks0) (x := tracks0) (by repeat (first | exact Has.head | apply Has.tail))) (fun hg => let h := idx_some hx10; ⟨h.1, h.2.1⟩)) ?_
          refine ow_ev (ev_ld (i := (t17_1 : Int)) (xs := tracks0) (y := x9) 0 (Kn.imm (α := List Int) (r := r_tracks0) (x := tracks0) (by repeat (first | exact Has.head | apply Has.tail))) (fun _ => hx10)) ?_
          refine ow_ev ev_move ?_
          refine ow_ev ev_move ?_
          refine ow_ev ev_move ?_
          obtain ⟨y11, hy12, hM⟩ := bind_some hM
          refine ow_cons (st_callS (by repeat (first | exact SelL.nil | (apply SelL.cons; · (repeat (first | exact Sel.head | apply Sel.tail))))) (fun S w hs hP => keep_builder_link_spec _ w b_b0 (Keep_builder.mk (Layout.mk b0.l.Stations lb_b0_j1_1 b0.l.Sections lb_b0_1_3) b0.tracks b0.between b0.westward) ((r_b0.1.1, rb_b0_j1_1, r_b0.1.2.2.1, rb_b0_1_3), r_b0.2.1, r_b0.2.2.1, r_b0.2.2.2) x9 x0 p_j1 (t17_1 : Int) y11 hy12 hP )  (fun r13 => ?_))
          dsimp only [List.cons_append, List.nil_append]
          refine ow_nil (hJ2 (y11, r13) _ _ hM ⟨rfl, rfl, rfl, rfl, rfl, rfl, rfl, trivial⟩ (fun w hm => hm.reord))
      ·
        clear hM
        intro g hM
        obtain ⟨lb_b0_j2_3, rb_b0_j2_3⟩ := g
        dsimp only at hM ⊢
        dsimp only [keep_builder_fan_k2] at hM
        refine cw_region ?_
        refine ow_ev (ev_add (hr := fun _ => by unfold I64; omega)) ?_
        refine ow_ev ev_move ?_
        refine ow_nil (hL1 (nn1, (lb_b0_j2_3, t17_1 + 1), rb_b0_j2_3) _ _ (eqc hcont1 hM) (Nat.lt_succ_self _) ⟨rfl, rfl, rfl, rfl, rfl, rfl, rfl, trivial⟩ (fun w hm => hm.reord))
    ·
      replace hM := (ite_f hc2).symm.trans hM
      obtain rfl := some_inj hM
      refine cw_exit (kw_end0 rfl (fun w hm => post_of (rb_b0_j1_1, rb_b0_1_3) hm rfl))

def keep_row_k2 (i_1 : Nat) (cont1 : (Int × (List Str) × (List Section) × (List (List Int)) × Nat) → Option (Keep_builder × Int)) (b_s0_2_1 : Int) (lb_1_0 : List Str) (y14 : Str) (lb_2_2 : List Section) (lb_1_4 : List (List Int)) (lt_2 : List Int) : Unit → Option (Keep_builder × Int) := fun _ =>
  chk (i64b ((i_1 : Int) + 1)) <|
  cont1 (b_s0_2_1, (lb_1_0 ++ ([y14] : List Str)), lb_2_2, (lb_1_4 ++ ([lt_2] : List (List Int))), i_1 + 1)
def keep_row_k3 (lb_1_4 : List (List Int)) (lt_2 : List Int) (i_1 : Nat) (cont1 : (Int × (List Str) × (List Section) × (List (List Int)) × Nat) → Option (Keep_builder × Int)) (b_s0_2_1 : Int) (lb_1_0 : List Str) (y14 : Str) (lb_2_2 : List Section) : Unit → Option (Keep_builder × Int) := fun _ =>
  chk (decide ((lb_1_4.length + ([lt_2] : List (List Int)).length) * 24 ≤ 140737488355328)) <|
  keep_row_k2 i_1 cont1 b_s0_2_1 lb_1_0 y14 lb_2_2 lb_1_4 lt_2 ()
def keep_row_b2 (i_1 : Nat) (s0 : Keep_Source) (lb_1_0 : List Str) (y14 : Str) (lb_1_4 : List (List Int)) (cont1 : (Int × (List Str) × (List Section) × (List (List Int)) × Nat) → Option (Keep_builder × Int)) (cont2 : (Int × (List Section) × (List Int) × Int) → Option (Keep_builder × Int)) : (Int × (List Section) × (List Int) × Int) → Option (Keep_builder × Int) := fun (b_s0_2_1, lb_2_2, lt_2, k_2) =>
  if decide (0 < k_2) then
    ((keep_named_m (⟨[84]⟩ : Str) (i_1 : Int)).bind fun y25 =>
    (keep_named_m y25 k_2).bind fun y27 =>
    (keep_Source_section_m (Keep_Source.mk s0.l b_s0_2_1) y27 (i_1 : Int)).bind fun y29 =>
    chk (i64b (y29.1.Length + 2)) <|
    (keep_builder_add_m (Keep_builder.mk (Layout.mk (lb_1_0 ++ ([y14] : List Str)) ([] : List Str) lb_2_2 ([] : List Link)) lb_1_4 ([] : List (List Int)) ([] : List (List Int))) (Section.mk y29.1.Name (y29.1.Length + 2) y29.1.Limit y29.1.Grade y29.1.Station)).bind fun y34 =>
    chk (decide ((lt_2.length + ([y34.1] : List Int).length) * 8 ≤ 140737488355328)) <|
    chk (i64b (k_2 - 1)) <|
    cont2 (y29.2, y34.2, (lt_2 ++ ([y34.1] : List Int)), (k_2 - 1)))
  else
    (keep_row_k3 lb_1_4 lt_2 i_1 cont1 b_s0_2_1 lb_1_0 y14 lb_2_2 ())
def keep_row_k5 (i_3 : Nat) (cont3 : (Int × (List Str) × (List Section) × (List Link) × (List (List Int)) × Nat) → Option (Keep_builder × Int)) (b_s0_4_1 : Int) (y91 : (List Str) × (List Link)) (lb_4_2 : List Section) (lb_3_5 : List (List Int)) (lt_4 : List Int) : Unit → Option (Keep_builder × Int) := fun _ =>
  chk (i64b ((i_3 : Int) + 1)) <|
  cont3 (b_s0_4_1, y91.1, lb_4_2, y91.2, (lb_3_5 ++ ([lt_4] : List (List Int))), i_3 + 1)
def keep_row_k7 (lt_4 : List Int) (lb_1_4 : List (List Int)) (i_3 : Nat) (lb_1_0 : List Str) (lb_3_1 : List Str) (lb_4_2 : List Section) (lb_5_3 : List Link) (lb_3_5 : List (List Int)) (cont3 : (Int × (List Str) × (List Section) × (List Link) × (List (List Int)) × Nat) → Option (Keep_builder × Int)) (b_s0_4_1 : Int) : Unit → Option (Keep_builder × Int) := fun _ =>
  (idx lt_4 0).bind fun x78 =>
  (idx lb_1_4 (i_3 : Int)).bind fun x80 =>
  (keep_builder_fan_m (Keep_builder.mk (Layout.mk lb_1_0 lb_3_1 lb_4_2 lb_5_3) lb_1_4 lb_3_5 ([] : List (List Int))) x78 x80 false).bind fun y82 =>
  chk (i64b ((lt_4.length : Int) - 1)) <|
  (idx lt_4 ((lt_4.length : Int) - 1)).bind fun x86 =>
  chk (i64b ((i_3 : Int) + 1)) <|
  (idx lb_1_4 ((i_3 : Int) + 1)).bind fun x89 =>
  (keep_builder_fan_m (Keep_builder.mk (Layout.mk lb_1_0 y82.1 lb_4_2 y82.2) lb_1_4 lb_3_5 ([] : List (List Int))) x86 x89 true).bind fun y91 =>
  chk (decide ((lb_3_5.length + ([lt_4] : List (List Int)).length) * 24 ≤ 140737488355328)) <|
  keep_row_k5 i_3 cont3 b_s0_4_1 y91 lb_4_2 lb_3_5 lt_4 ()
def keep_row_b5 (lt_4 : List Int) (lb_1_0 : List Str) (lb_3_1 : List Str) (lb_4_2 : List Section) (lb_1_4 : List (List Int)) (lb_3_5 : List (List Int)) (i_3 : Nat) (cont3 : (Int × (List Str) × (List Section) × (List Link) × (List (List Int)) × Nat) → Option (Keep_builder × Int)) (b_s0_4_1 : Int) (cont5 : ((List Link) × Nat) → Option (Keep_builder × Int)) : ((List Link) × Nat) → Option (Keep_builder × Int) := fun (lb_5_3, k_5) =>
  chk (i64b ((k_5 : Int) + 1)) <|
  if decide (((k_5 : Int) + 1) < (lt_4.length : Int)) then
    ((idx lt_4 (k_5 : Int)).bind fun x69 =>
    chk (i64b ((k_5 : Int) + 1)) <|
    (idx lt_4 ((k_5 : Int) + 1)).bind fun x72 =>
    (keep_builder_link_m (Keep_builder.mk (Layout.mk lb_1_0 lb_3_1 lb_4_2 lb_5_3) lb_1_4 lb_3_5 ([] : List (List Int))) x69 x72 (-1) 0).bind fun y74 =>
    chk (i64b ((k_5 : Int) + 1)) <|
    cont5 (y74, k_5 + 1))
  else
    (keep_row_k7 lt_4 lb_1_4 i_3 lb_1_0 lb_3_1 lb_4_2 lb_5_3 lb_3_5 cont3 b_s0_4_1 ())
def keep_row_k6 (lt_4 : List Int) (lb_1_0 : List Str) (lb_3_1 : List Str) (lb_4_2 : List Section) (lb_1_4 : List (List Int)) (lb_3_5 : List (List Int)) (i_3 : Nat) (cont3 : (Int × (List Str) × (List Section) × (List Link) × (List (List Int)) × Nat) → Option (Keep_builder × Int)) (b_s0_4_1 : Int) (lb_3_3 : List Link) : Unit → Option (Keep_builder × Int) := fun _ =>
  iter (keep_row_b5 lt_4 lb_1_0 lb_3_1 lb_4_2 lb_1_4 lb_3_5 i_3 cont3 b_s0_4_1) FUEL (lb_3_3, 0)
def keep_row_b4 (i_3 : Nat) (s0 : Keep_Source) (lb_1_0 : List Str) (lb_3_1 : List Str) (lb_3_3 : List Link) (lb_1_4 : List (List Int)) (lb_3_5 : List (List Int)) (cont3 : (Int × (List Str) × (List Section) × (List Link) × (List (List Int)) × Nat) → Option (Keep_builder × Int)) (cont4 : (Int × (List Section) × (List Int) × Int) → Option (Keep_builder × Int)) : (Int × (List Section) × (List Int) × Int) → Option (Keep_builder × Int) := fun (b_s0_4_1, lb_4_2, lt_4, k_4) =>
  if decide (0 < k_4) then
    ((keep_named_m (⟨[76]⟩ : Str) (i_3 : Int)).bind fun y53 =>
    (keep_named_m y53 k_4).bind fun y55 =>
    (keep_Source_section_m (Keep_Source.mk s0.l b_s0_4_1) y55 (-1)).bind fun y57 =>
    (keep_builder_add_m (Keep_builder.mk (Layout.mk lb_1_0 lb_3_1 lb_4_2 lb_3_3) lb_1_4 lb_3_5 ([] : List (List Int))) y57.1).bind fun y60 =>
    chk (decide ((lt_4.length + ([y60.1] : List Int).length) * 8 ≤ 140737488355328)) <|
    chk (i64b (k_4 - 1)) <|
    cont4 (y57.2, y60.2, (lt_4 ++ ([y60.1] : List Int)), (k_4 - 1)))
  else
    (keep_row_k6 lt_4 lb_1_0 lb_3_1 lb_4_2 lb_1_4 lb_3_5 i_3 cont3 b_s0_4_1 lb_3_3 ())
def keep_row_k4 (lb_1_0 : List Str) (lb_3_1 : List Str) (lb_3_2 : List Section) (lb_3_3 : List Link) (lb_1_4 : List (List Int)) (lb_3_5 : List (List Int)) (b_s0_3_1 : Int) : Unit → Option (Keep_builder × Int) := fun _ =>
  some ((Keep_builder.mk (Layout.mk lb_1_0 lb_3_1 lb_3_2 lb_3_3) lb_1_4 lb_3_5 ([] : List (List Int))), b_s0_3_1)
def keep_row_b3 (y2 : Int × Int) (s0 : Keep_Source) (lb_1_0 : List Str) (lb_1_4 : List (List Int)) (cont3 : (Int × (List Str) × (List Section) × (List Link) × (List (List Int)) × Nat) → Option (Keep_builder × Int)) : (Int × (List Str) × (List Section) × (List Link) × (List (List Int)) × Nat) → Option (Keep_builder × Int) := fun (b_s0_3_1, lb_3_1, lb_3_2, lb_3_3, lb_3_5, i_3) =>
  chk (i64b ((i_3 : Int) + 1)) <|
  if decide (((i_3 : Int) + 1) < (2 + y2.1)) then
    ((keep_Source_Next_m (Keep_Source.mk s0.l b_s0_3_1) 2).bind fun y47 =>
    chk (i64b (1 + y47.1)) <|
    iter (keep_row_b4 i_3 s0 lb_1_0 lb_3_1 lb_3_3 lb_1_4 lb_3_5 cont3) FUEL (y47.2, lb_3_2, ([] : List Int), (1 + y47.1)))
  else
    (keep_row_k4 lb_1_0 lb_3_1 lb_3_2 lb_3_3 lb_1_4 lb_3_5 b_s0_3_1 ())
def keep_row_k1 (y2 : Int × Int) (s0 : Keep_Source) (lb_1_0 : List Str) (lb_1_4 : List (List Int)) (b_s0_1_1 : Int) (lb_1_2 : List Section) : Unit → Option (Keep_builder × Int) := fun _ =>
  iter (keep_row_b3 y2 s0 lb_1_0 lb_1_4) FUEL (b_s0_1_1, ([] : List Str), lb_1_2, ([] : List Link), ([] : List (List Int)), 0)
def keep_row_b1 (y2 : Int × Int) (s0 : Keep_Source) (cont1 : (Int × (List Str) × (List Section) × (List (List Int)) × Nat) → Option (Keep_builder × Int)) : (Int × (List Str) × (List Section) × (List (List Int)) × Nat) → Option (Keep_builder × Int) := fun (b_s0_1_1, lb_1_0, lb_1_2, lb_1_4, i_1) =>
  if decide ((i_1 : Int) < (2 + y2.1)) then
    ((keep_named_m (⟨[83]⟩ : Str) (i_1 : Int)).bind fun y14 =>
    chk (decide ((lb_1_0.length + ([y14] : List Str).length) * 16 ≤ 140737488355328)) <|
    (keep_Source_Next_m (Keep_Source.mk s0.l b_s0_1_1) 2).bind fun y19 =>
    chk (i64b (1 + y19.1)) <|
    iter (keep_row_b2 i_1 s0 lb_1_0 y14 lb_1_4 cont1) FUEL (y19.2, lb_1_2, ([] : List Int), (1 + y19.1)))
  else
    (keep_row_k1 y2 s0 lb_1_0 lb_1_4 b_s0_1_1 lb_1_2 ())
def keep_row_m (s0 : Keep_Source) : Option (Keep_builder × Int) :=
  (keep_Source_Next_m s0 2).bind fun y2 =>
  chk (i64b (2 + y2.1)) <|
  iter (keep_row_b1 y2 s0) FUEL (y2.2, ([] : List Str), ([] : List Section), ([] : List (List Int)), 0)
theorem keep_row_spec (S : Soup) (w : World) (b_s0 : Nat) (s0 : Keep_Source) (r_s0 : GoRep.R Keep_Source) (y : Keep_builder × Int) (hM : keep_row_m s0 = some y) (hP : Pre S [own b_s0 106 [.slice r_s0.a s0.l.length r_s0.cap, .int .i64 s0.i]] w) (h_s0_0 : GoRep.ok (α := List Int) S w r_s0 s0.l) :
    Calls Tryd.prog 33 #[.pointer (some ⟨b_s0, 0, none⟩)] w (Post (β := Nat × (GoRep.R (List Str)) × (GoRep.R (List Str)) × (GoRep.R (List Section)) × (GoRep.R (List Link)) × (GoRep.R (List (List Int))) × (GoRep.R (List (List Int))) × (GoRep.R (List (List Int)))) S [own b_s0 106 [.slice r_s0.a s0.l.length r_s0.cap, .int .i64 s0.i]] (fun g => .pointer (some ⟨g.1, 0, none⟩)) (fun g => [own g.1 61 [.slice g.2.1.a y.1.l.Stations.length g.2.1.cap, .slice g.2.2.1.a y.1.l.Points.length g.2.2.1.cap, .slice g.2.2.2.1.a y.1.l.Sections.length g.2.2.2.1.cap, .slice g.2.2.2.2.1.a y.1.l.Links.length g.2.2.2.2.1.cap, .slice g.2.2.2.2.2.1.a y.1.tracks.length g.2.2.2.2.2.1.cap, .slice g.2.2.2.2.2.2.1.a y.1.between.length g.2.2.2.2.2.2.1.cap, .slice g.2.2.2.2.2.2.2.a y.1.westward.length g.2.2.2.2.2.2.2.cap], trow 9 g.2.1 y.1.l.Stations, trow 9 g.2.2.1 y.1.l.Points, trow 57 g.2.2.2.1 y.1.l.Sections, trow 72 g.2.2.2.2.1 y.1.l.Links, trow 31 g.2.2.2.2.2.1 y.1.tracks, trow 31 g.2.2.2.2.2.2.1 y.1.between, trow 31 g.2.2.2.2.2.2.2 y.1.westward, own b_s0 106 [.slice r_s0.a s0.l.length r_s0.cap, .int .i64 y.2]]) w) := by
  refine calls_cw (args := [_]) Tryd.func33 rfl (hP.start |>.immP (α := List Int) (r := r_s0) (x := s0.l) h_s0_0) rfl ?_
  unfold keep_row_m at hM
  refine cw_seq fun K1 hK1 => ?_
  refine cw_region ?_
  refine ow_ev ev_assign ?_
  refine ow_nil (hK1 _ _ ?_); clear hK1
  refine cw_seq fun K2 hK2 => ?_
  refine cw_region ?_
  refine ow_ev (ev_build [.slice none 0 0, .slice none 0 0, .slice none 0 0, .slice none 0 0, .slice none 0 0, .slice none 0 0, .slice none 0 0]) ?_
  refine ow_cons (st_box (l := [.slice none 0 0, .slice none 0 0, .slice none 0 0, .slice none 0 0, .slice none 0 0, .slice none 0 0, .slice none 0 0]) (k := fun b1 => ?_))
  refine ow_ev ev_assign ?_
  refine ow_nil (hK2 _ _ ?_); clear hK2
  refine cw_seq fun K3 hK3 => ?_
  refine cw_region ?_
  refine ow_ev ev_move ?_
  obtain ⟨y2, hy3, hM⟩ := bind_some hM
  refine ow_cons (st_callF (by repeat (first | exact SelL.nil | (apply SelL.cons; · (repeat (first | exact Sel.head | apply Sel.tail))))) (fun S w hs hP => keep_Source_Next_spec _ w b_s0 s0 r_s0 2 y2 hy3 hP (Kn.lend (Kn.imm (α := List Int) (r := r_s0) (x := s0.l) (by repeat (first | exact Has.head | apply Has.tail))) hs)) (by intro r c hc; simp only [List.mem_cons, List.not_mem_nil, or_false] at hc; rcases hc with rfl <;> first | exact flatC_own | exact flatC_trow (fun _ _ _ _ => trivial)) (fun r4 => ?_))
  dsimp only [List.cons_append, List.nil_append]
  obtain ⟨hI5, hM⟩ := chk_some hM
  refine ow_ev (ev_add (hr := fun hg => i64b_I64 hI5)) ?_
  refine ow_ev ev_assign ?_
  refine ow_nil (hK3 _ _ ?_); clear hK3
  refine cw_seq fun K4 hK4 => ?_
  refine cw_seq fun K5 hK5 => ?_
  refine cw_region ?_
  refine ow_ev ev_assign ?_
  refine ow_nil (hK5 _ _ ?_); clear hK5
  refine cw_block ?_
  refine cw_imp (fun w hm => hm.row_nil (α := Str) 9 (fun _ => ())) ?_
  refine cw_imp (fun w hm => hm.row_nil (α := Str) 9 (fun _ => ())) ?_
  refine cw_imp (fun w hm => hm.row_nil (α := Section) 57 (fun _ => ())) ?_
  refine cw_imp (fun w hm => hm.row_nil (α := Link) 72 (fun _ => ())) ?_
  refine cw_imp (fun w hm => hm.row_nil (α := List Int) 31 (fun _ => (⟨none, 0, (fun _ => ())⟩ : SR (GoRep.R Int)))) ?_
  refine cw_imp (fun w hm => hm.row_nil (α := List Int) 31 (fun _ => (⟨none, 0, (fun _ => ())⟩ : SR (GoRep.R Int)))) ?_
  refine cw_imp (fun w hm => hm.row_nil (α := List Int) 31 (fun _ => (⟨none, 0, (fun _ => ())⟩ : SR (GoRep.R Int)))) ?_
  refine cw_loop (γ := Nat × (Int × (List Str) × (List Section) × (List (List Int)) × Nat) × ((SR (GoRep.R Str)) × (SR (GoRep.R Section)) × (SR (GoRep.R (List Int))))) (env := fun (_, (b_s0_1_1, lb_1_0, lb_1_2, lb_1_4, i_1), (rb_1_0, rb_1_2, rb_1_4)) => [(0, .v (.pointer (some ⟨b_s0, 0, none⟩))), (3, .v (.pointer (some ⟨b1, 0, none⟩))), (4, .v (.int .i64 (2 + y2.1))), (5, .v (.int .i64 (i_1 : Int)))]) (mem := fun (_, (b_s0_1_1, lb_1_0, lb_1_2, lb_1_4, i_1), (rb_1_0, rb_1_2, rb_1_4)) => [imm (α := (List Int)) r_s0 s0.l, own b_s0 106 [.slice r_s0.a s0.l.length r_s0.cap, .int .i64 b_s0_1_1], trow 9 rb_1_0 lb_1_0, trow 9 (⟨none, 0, (fun _ => ())⟩ : SR (GoRep.R Str)  ) ([] : List Str), trow 57 rb_1_2 lb_1_2, trow 72 (⟨none, 0, (fun _ => ())⟩ : SR (GoRep.R Link)    ) ([] : List Link), trow 31 rb_1_4 lb_1_4, trow 31 (⟨none, 0, (fun _ => (⟨none, 0, (fun _ => ())⟩ : SR (GoRep.R Int)))⟩ : SR (GoRep.R (List Int))      ) ([] : List (List Int)), trow 31 (⟨none, 0, (fun _ => (⟨none, 0, (fun _ => ())⟩ : SR (GoRep.R Int)))⟩ : SR (GoRep.R (List Int))       ) ([] : List (List Int)), own b1 61 [.slice rb_1_0.a lb_1_0.length rb_1_0.cap, .slice (⟨none, 0, (fun _ => ())⟩ : SR (GoRep.R Str)  ).a (([] : List Str).length) (⟨none, 0, (fun _ => ())⟩ : SR (GoRep.R Str)  ).cap, .slice rb_1_2.a lb_1_2.length rb_1_2.cap, .slice (⟨none, 0, (fun _ => ())⟩ : SR (GoRep.R Link)    ).a (([] : List Link).length) (⟨none, 0, (fun _ => ())⟩ : SR (GoRep.R Link)    ).cap, .slice rb_1_4.a lb_1_4.length rb_1_4.cap, .slice (⟨none, 0, (fun _ => (⟨none, 0, (fun _ => ())⟩ : SR (GoRep.R Int)))⟩ : SR (GoRep.R (List Int))      ).a (([] : List (List Int)).length) (⟨none, 0, (fun _ => (⟨none, 0, (fun _ => ())⟩ : SR (GoRep.R Int)))⟩ : SR (GoRep.R (List Int))      ).cap, .slice (⟨none, 0, (fun _ => (⟨none, 0, (fun _ => ())⟩ : SR (GoRep.R Int)))⟩ : SR (GoRep.R (List Int))       ).a (([] : List (List Int)).length) (⟨none, 0, (fun _ => (⟨none, 0, (fun _ => ())⟩ : SR (GoRep.R Int)))⟩ : SR (GoRep.R (List Int))       ).cap]]) (R := fun g => iter (keep_row_b1 y2 s0) g.1 g.2.1 = some y) (μ := fun g => g.1) (FUEL, (y2.2, ([] : List Str), ([] : List Section), ([] : List (List Int)), 0), ((⟨none, 0, (fun _ => ())⟩ : SR (GoRep.R Str) ), (⟨none, 0, (fun _ => ())⟩ : SR (GoRep.R Section)   ), (⟨none, 0, (fun _ => (⟨none, 0, (fun _ => ())⟩ : SR (GoRep.R Int)))⟩ : SR (GoRep.R (List Int))     ))) hM ⟨rfl, rfl, rfl, rfl, trivial⟩ (fun w hm => hm.reord) ?_
  clear hM
  intro g hM KL1 hL1
  obtain ⟨nn1, ⟨b_s0_1_1, lb_1_0, lb_1_2, lb_1_4, i_1⟩, ⟨rb_1_0, rb_1_2, rb_1_4⟩⟩ := g
  dsimp only at hM ⊢
  obtain ⟨nn1, cont1, rfl, hcont1, hM⟩ := iter_open' hM
  dsimp only [keep_row_b1] at hM
  refine cw_seq fun K6 hK6 => ?_
  refine cw_seq fun K7 hK7 => ?_
  refine cw_region ?_
  refine ow_ev ev_move ?_
  refine ow_ev ev_move ?_
  refine ow_ev ev_lss ?_
  refine ow_nil (hK7 _ _ ?_); clear hK7
  refine cw_cond rfl (fun hc13 => ?_) (fun hc13 => ?_)
  ·
    replace hM := (ite_t hc13).symm.trans hM
    refine cw_skip (hK6 _ _ ?_); clear hK6
    refine cw_seq fun K8 hK8 => ?_
    refine cw_block ?_
    refine cw_seq fun K9 hK9 => ?_
    refine cw_region_z [imm (α := (List Int)) r_s0 s0.l, own b_s0 106 [.slice r_s0.a s0.l.length r_s0.cap, .int .i64 b_s0_1_1], trow 9 (⟨none, 0, (fun _ => ())⟩ : SR (GoRep.R Str)  ) ([] : List Str), trow 57 rb_1_2 lb_1_2, trow 72 (⟨none, 0, (fun _ => ())⟩ : SR (GoRep.R Link)    ) ([] : List Link), trow 31 rb_1_4 lb_1_4, trow 31 (⟨none, 0, (fun _ => (⟨none, 0, (fun _ => ())⟩ : SR (GoRep.R Int)))⟩ : SR (GoRep.R (List Int))      ) ([] : List (List Int)), trow 31 (⟨none, 0, (fun _ => (⟨none, 0, (fun _ => ())⟩ : SR (GoRep.R Int)))⟩ : SR (GoRep.R (List Int))       ) ([] : List (List Int)), own b1 61 [.slice rb_1_0.a lb_1_0.length rb_1_0.cap, .slice (⟨none, 0, (fun _ => ())⟩ : SR (GoRep.R Str)  ).a (([] : List Str).length) (⟨none, 0, (fun _ => ())⟩ : SR (GoRep.R Str)  ).cap, .slice rb_1_2.a lb_1_2.length rb_1_2.cap, .slice (⟨none, 0, (fun _ => ())⟩ : SR (GoRep.R Link)    ).a (([] : List Link).length) (⟨none, 0, (fun _ => ())⟩ : SR (GoRep.R Link)    ).cap, .slice rb_1_4.a lb_1_4.length rb_1_4.cap, .slice (⟨none, 0, (fun _ => (⟨none, 0, (fun _ => ())⟩ : SR (GoRep.R Int)))⟩ : SR (GoRep.R (List Int))      ).a (([] : List (List Int)).length) (⟨none, 0, (fun _ => (⟨none, 0, (fun _ => ())⟩ : SR (GoRep.R Int)))⟩ : SR (GoRep.R (List Int))      ).cap, .slice (⟨none, 0, (fun _ => (⟨none, 0, (fun _ => ())⟩ : SR (GoRep.R Int)))⟩ : SR (GoRep.R (List Int))       ).a (([] : List (List Int)).length) (⟨none, 0, (fun _ => (⟨none, 0, (fun _ => ())⟩ : SR (GoRep.R Int)))⟩ : SR (GoRep.R (List Int))       ).cap]] 13 ?_
    refine az_ev 0 rfl ev_move ?_
    refine az_ev 1 rfl ev_move ?_
    refine az_ev 2 rfl ev_nilcheck ?_
    refine az_ev 3 rfl (ev_field_addr 0) ?_
    refine az_ev 4 rfl (ev_field_addr 0) ?_
    refine az_ev 5 rfl (ev_load_own (b := b1)) ?_
    refine az_ev 6 rfl ev_move ?_
    obtain ⟨y14, hy15, hM⟩ := bind_some hM
    refine az_one 7 rfl (st_callv (fun w hm => let ⟨S, hs⟩ := hm; keep_named_spec _ w (⟨[83]⟩ : Str) (i_1 : Int) y14 hy15 (lend_lt hs) ) ⟨fun w hm => hm.sub (by repeat (first | exact List.Sublist.refl _ | apply List.Sublist.cons_cons | apply List.Sublist.cons)), ?_⟩)
    refine az_one 8 rfl (st_bslice (α := Str) 9 (fun _ => ()) ([y14] : List Str) (OkL.flat (fun _ _ _ _ => trivial)) (fun r16 => ⟨fun w hm => hm.sub (by repeat (first | exact List.Sublist.refl _ | apply List.Sublist.cons_cons | apply List.Sublist.cons)), ?_⟩))
    obtain ⟨hb18, hM⟩ := chk_some hM
    refine az_one 9 rfl (st_append (r := rb_1_0) (r2 := r16) (by intro r'; repeat (first | exact Upd.head | apply Upd.tail)) (Kn.trow (e := 9) (r := r16) (by repeat (first | exact Has.head | apply Has.tail))) (OkL.flat (fun _ _ _ _ => trivial)) (of_decide_eq_true hb18) (fun r17 => ⟨fun w hm => hm.sub (by repeat (first | exact List.Sublist.refl _ | apply List.Sublist.cons_cons | apply List.Sublist.cons)), ?_⟩))
    refine az_ev 10 rfl ev_nilcheck ?_
    refine az_ev 11 rfl (ev_field_addr 0) ?_
    refine az_ev 12 rfl (ev_field_addr 0) ?_
    refine az_last rfl (st_store_own (b := b1) (l' := [.slice r17.a ((lb_1_0 ++ ([y14] : List Str)).length) r17.cap, .slice (⟨none, 0, (fun _ => ())⟩ : SR (GoRep.R Str)  ).a (([] : List Str).length) (⟨none, 0, (fun _ => ())⟩ : SR (GoRep.R Str)  ).cap, .slice rb_1_2.a lb_1_2.length rb_1_2.cap, .slice (⟨none, 0, (fun _ => ())⟩ : SR (GoRep.R Link)    ).a (([] : List Link).length) (⟨none, 0, (fun _ => ())⟩ : SR (GoRep.R Link)    ).cap, .slice rb_1_4.a lb_1_4.length rb_1_4.cap, .slice (⟨none, 0, (fun _ => (⟨none, 0, (fun _ => ())⟩ : SR (GoRep.R Int)))⟩ : SR (GoRep.R (List Int))      ).a (([] : List (List Int)).length) (⟨none, 0, (fun _ => (⟨none, 0, (fun _ => ())⟩ : SR (GoRep.R Int)))⟩ : SR (GoRep.R (List Int))      ).cap, .slice (⟨none, 0, (fun _ => (⟨none, 0, (fun _ => ())⟩ : SR (GoRep.R Int)))⟩ : SR (GoRep.R (List Int))       ).a (([] : List (List Int)).length) (⟨none, 0, (fun _ => (⟨none, 0, (fun _ => ())⟩ : SR (GoRep.R Int)))⟩ : SR (GoRep.R (List Int))       ).cap]) (k := ?_))
    refine az_done (hK9 _ _ ?_); clear hK9
    refine cw_seq fun K10 hK10 => ?_
    refine cw_region ?_
    refine ow_ev ev_assign ?_
    refine ow_nil (hK10 _ _ ?_); clear hK10
    refine cw_seq fun K11 hK11 => ?_
    refine cw_seq fun K12 hK12 => ?_
    refine cw_region ?_
    refine ow_ev ev_move ?_
    obtain ⟨y19, hy20, hM⟩ := bind_some hM
    refine ow_cons (st_callF (by repeat (first | exact SelL.nil | (apply SelL.cons; · (repeat (first | exact Sel.head | apply Sel.tail))))) (fun S w hs hP => keep_Source_Next_spec _ w b_s0 (Keep_Source.mk s0.l b_s0_1_1) r_s0 2 y19 hy20 hP (Kn.lend (Kn.imm (α := List Int) (r := r_s0) (x := s0.l) (by repeat (first | exact Has.head | apply Has.tail))) hs)) (by intro r c hc; simp only [List.mem_cons, List.not_mem_nil, or_false] at hc; rcases hc with rfl <;> first | exact flatC_own | exact flatC_trow (fun _ _ _ _ => trivial)) (fun r21 => ?_))
    dsimp only [List.cons_append, List.nil_append]
    obtain ⟨hI22, hM⟩ := chk_some hM
    refine ow_ev (ev_add (hr := fun hg => i64b_I64 hI22)) ?_
    refine ow_ev ev_assign ?_
    refine ow_nil (hK12 _ _ ?_); clear hK12
    refine cw_block ?_
    refine cw_imp (fun w hm => hm.row_nil (α := Int) 3 (fun _ => ())) ?_
    refine cw_loop (γ := Nat × (Int × (List Section) × (List Int) × Int) × ((SR (GoRep.R Section)) × (SR (GoRep.R Int)))) (env := fun (_, (b_s0_2_1, lb_2_2, lt_2, k_2), (rb_2_2, rt_2)) => [(0, .v (.pointer (some ⟨b_s0, 0, none⟩))), (3, .v (.pointer (some ⟨b1, 0, none⟩))), (4, .v (.int .i64 (2 + y2.1))), (5, .v (.int .i64 (i_1 : Int))), (6, .v (.slice rt_2.a lt_2.length rt_2.cap)), (7, .v (.int .i64 k_2))]) (mem := fun (_, (b_s0_2_1, lb_2_2, lt_2, k_2), (rb_2_2, rt_2)) => [imm (α := (List Int)) r_s0 s0.l, own b_s0 106 [.slice r_s0.a s0.l.length r_s0.cap, .int .i64 b_s0_2_1], trow 9 r17 (lb_1_0 ++ ([y14] : List Str)), trow 9 (⟨none, 0, (fun _ => ())⟩ : SR (GoRep.R Str)  ) ([] : List Str), trow 57 rb_2_2 lb_2_2, trow 72 (⟨none, 0, (fun _ => ())⟩ : SR (GoRep.R Link)    ) ([] : List Link), trow 31 rb_1_4 lb_1_4, trow 31 (⟨none, 0, (fun _ => (⟨none, 0, (fun _ => ())⟩ : SR (GoRep.R Int)))⟩ : SR (GoRep.R (List Int))      ) ([] : List (List Int)), trow 31 (⟨none, 0, (fun _ => (⟨none, 0, (fun _ => ())⟩ : SR (GoRep.R Int)))⟩ : SR (GoRep.R (List Int))       ) ([] : List (List Int)), own b1 61 [.slice r17.a ((lb_1_0 ++ ([y14] : List Str)).length) r17.cap, .slice (⟨none, 0, (fun _ => ())⟩ : SR (GoRep.R Str)  ).a (([] : List Str).length) (⟨none, 0, (fun _ => ())⟩ : SR (GoRep.R Str)  ).cap, .slice rb_2_2.a lb_2_2.length rb_2_2.cap, .slice (⟨none, 0, (fun _ => ())⟩ : SR (GoRep.R Link)    ).a (([] : List Link).length) (⟨none, 0, (fun _ => ())⟩ : SR (GoRep.R Link)    ).cap, .slice rb_1_4.a lb_1_4.length rb_1_4.cap, .slice (⟨none, 0, (fun _ => (⟨none, 0, (fun _ => ())⟩ : SR (GoRep.R Int)))⟩ : SR (GoRep.R (List Int))      ).a (([] : List (List Int)).length) (⟨none, 0, (fun _ => (⟨none, 0, (fun _ => ())⟩ : SR (GoRep.R Int)))⟩ : SR (GoRep.R (List Int))      ).cap, .slice (⟨none, 0, (fun _ => (⟨none, 0, (fun _ => ())⟩ : SR (GoRep.R Int)))⟩ : SR (GoRep.R (List Int))       ).a (([] : List (List Int)).length) (⟨none, 0, (fun _ => (⟨none, 0, (fun _ => ())⟩ : SR (GoRep.R Int)))⟩ : SR (GoRep.R (List Int))       ).cap], trow 3 rt_2 lt_2]) (R := fun g => iter (keep_row_b2 i_1 s0 lb_1_0 y14 lb_1_4 cont1) g.1 g.2.1 = some y) (μ := fun g => g.1) (FUEL, (y19.2, lb_1_2, ([] : List Int), (1 + y19.1)), (rb_1_2, (⟨none, 0, (fun _ => ())⟩ : SR (GoRep.R Int)                                ))) hM ⟨rfl, rfl, rfl, rfl, rfl, rfl, trivial⟩ (fun w hm => hm.reord) ?_
    clear hM
    intro g hM KL2 hL2
    obtain ⟨nn2, ⟨b_s0_2_1, lb_2_2, lt_2, k_2⟩, ⟨rb_2_2, rt_2⟩⟩ := g
    dsimp only at hM ⊢
    obtain ⟨nn2, cont2, rfl, hcont2, hM⟩ := iter_open' hM
    dsimp only [keep_row_b2] at hM
    refine cw_seq fun K13 hK13 => ?_
    refine cw_seq fun K14 hK14 => ?_
    refine cw_region ?_
    refine ow_ev ev_move ?_
    refine ow_ev ev_gtr ?_
    refine ow_nil (hK14 _ _ ?_); clear hK14
    refine cw_cond rfl (fun hc24 => ?_) (fun hc24 => ?_)
    ·
      replace hM := (ite_t hc24).symm.trans hM
      refine cw_skip (hK13 _ _ ?_); clear hK13
      refine cw_seq fun K15 hK15 => ?_
      refine cw_block ?_
      refine cw_seq fun K16 hK16 => ?_
      refine cw_region ?_
      refine ow_ev ev_move ?_
      refine ow_ev ev_move ?_
      obtain ⟨y25, hy26, hM⟩ := bind_some hM
      refine ow_cons (st_callv (fun w hm => let ⟨S, hs⟩ := hm; keep_named_spec _ w (⟨[84]⟩ : Str) (i_1 : Int) y25 hy26 (lend_lt hs) ) ?_)
      refine ow_ev ev_move ?_
      obtain ⟨y27, hy28, hM⟩ := bind_some hM
      refine ow_cons (st_callv (fun w hm => let ⟨S, hs⟩ := hm; keep_named_spec _ w y25 k_2 y27 hy28 (lend_lt hs) ) ?_)
      refine ow_ev ev_move ?_
      obtain ⟨y29, hy30, hM⟩ := bind_some hM
      refine ow_cons (st_callF (by repeat (first | exact SelL.nil | (apply SelL.cons; · (repeat (first | exact Sel.head | apply Sel.tail))))) (fun S w hs hP => keep_Source_section_spec _ w b_s0 (Keep_Source.mk s0.l b_s0_2_1) r_s0 y27 (i_1 : Int) y29 hy30 hP (Kn.lend (Kn.imm (α := List Int) (r := r_s0) (x := s0.l) (by repeat (first | exact Has.head | apply Has.tail))) hs)) (by intro r c hc; simp only [List.mem_cons, List.not_mem_nil, or_false] at hc; rcases hc with rfl <;> first | exact flatC_own | exact flatC_trow (fun _ _ _ _ => trivial)) (fun r31 => ?_))
      dsimp only [List.cons_append, List.nil_append]
      refine ow_cons (st_alloc rfl (k := fun b32 => ?_))
      refine ow_cons (st_store_all (b := b32) (vs := [.string y29.1.Name.ba, .int .i64 y29.1.Length, .int .i64 y29.1.Limit, .int .i64 y29.1.Grade, .int .i64 y29.1.Station]) (k := ?_))
      refine ow_nil (hK16 _ _ ?_); clear hK16
      refine cw_seq fun K17 hK17 => ?_
      refine cw_region ?_
      refine ow_ev (ev_field_addr 1) ?_
      refine ow_ev (ev_load_own (b := b32)) ?_
      obtain ⟨hI33, hM⟩ := chk_some hM
      refine ow_ev (ev_add (hr := fun hg => i64b_I64 hI33)) ?_
      refine ow_ev (ev_field_addr 1) ?_
      refine ow_cons (st_store_own (b := b32) (l' := [.string y29.1.Name.ba, .int .i64 (y29.1.Length + 2), .int .i64 y29.1.Limit, .int .i64 y29.1.Grade, .int .i64 y29.1.Station]) (k := ?_))
      refine ow_nil (hK17 _ _ ?_); clear hK17
      refine cw_region ?_
      refine ow_ev ev_move ?_
      refine ow_ev ev_move ?_
      refine ow_ev (ev_load_all (b := b32)) ?_
      obtain ⟨y34, hy35, hM⟩ := bind_some hM
      refine ow_cons (st_callS (by repeat (first | exact SelL.nil | (apply SelL.cons; · (repeat (first | exact Sel.head | apply Sel.tail))))) (fun S w hs hP => keep_builder_add_spec _ w b1 (Keep_builder.mk (Layout.mk (lb_1_0 ++ ([y14] : List Str)) ([] : List Str) lb_2_2 ([] : List Link)) lb_1_4 ([] : List (List Int)) ([] : List (List Int))) ((r17, (⟨none, 0, (fun _ => ())⟩ : SR (GoRep.R Str)  ), rb_2_2, (⟨none, 0, (fun _ => ())⟩ : SR (GoRep.R Link)    )), rb_1_4, (⟨none, 0, (fun _ => (⟨none, 0, (fun _ => ())⟩ : SR (GoRep.R Int)))⟩ : SR (GoRep.R (List Int))      ), (⟨none, 0, (fun _ => (⟨none, 0, (fun _ => ())⟩ : SR (GoRep.R Int)))⟩ : SR (GoRep.R (List Int))       )) (Section.mk y29.1.Name (y29.1.Length + 2) y29.1.Limit y29.1.Grade y29.1.Station) y34 hy35 hP )  (fun r36 => ?_))
      dsimp only [List.cons_append, List.nil_append]
      refine ow_cons (st_bslice (α := Int) 3 (fun _ => ()) ([y34.1] : List Int) (OkL.flat (fun _ _ _ _ => trivial)) (fun r37 => ?_))
      obtain ⟨hb39, hM⟩ := chk_some hM
      refine ow_cons (st_append (r := rt_2) (r2 := r37) (by intro r'; repeat (first | exact Upd.head | apply Upd.tail)) (Kn.trow (e := 3) (r := r37) (by repeat (first | exact Has.head | apply Has.tail))) (OkL.flat (fun _ _ _ _ => trivial)) (of_decide_eq_true hb39) (fun r38 => ?_))
      refine ow_ev ev_assign ?_
      refine ow_nil (hK15 _ _ ?_); clear hK15
      refine cw_region ?_
      refine ow_ev ev_move ?_
      obtain ⟨hI40, hM⟩ := chk_some hM
      refine ow_ev (ev_sub (hr := fun hg => i64b_I64 hI40)) ?_
      refine ow_ev ev_assign ?_
      refine ow_nil (hL2 (nn2, (y29.2, y34.2, (lt_2 ++ ([y34.1] : List Int)), (k_2 - 1)), (r36, r38)) _ _ (eqc hcont2 hM) (Nat.lt_succ_self _) ⟨rfl, rfl, rfl, rfl, rfl, rfl, trivial⟩ (fun w hm => hm.reord))
    ·
      replace hM := (ite_f hc24).symm.trans hM
      refine cw_exit (hK11 _ _ ?_); clear hK11
      dsimp only [keep_row_k3] at hM
      refine cw_region ?_
      refine ow_ev ev_move ?_
      refine ow_ev ev_move ?_
      refine ow_ev ev_nilcheck ?_
      refine ow_ev (ev_field_addr 4) ?_
      refine ow_ev (ev_load_own (b := b1)) ?_
      refine ow_ev ev_move ?_
      refine ow_imp (fun w hm => hm.freeze (r := rt_2) (by repeat (first | exact Upd.head | apply Upd.tail))) ?_
      refine ow_cons (st_bslice (α := List Int) 31 (fun _ => rt_2) ([lt_2] : List (List Int)) (OkL.cons (fun S w hs => ((Sk.imm (α := List Int) (r := rt_2) (x := lt_2) (by repeat (first | exact Has.head | apply Has.tail))) S w hs)) OkL.nil) (fun r41 => ?_))
      obtain ⟨hb43, hM⟩ := chk_some hM
      refine ow_cons (st_append (r := rb_1_4) (r2 := r41) (by intro r'; repeat (first | exact Upd.head | apply Upd.tail)) (Kn.trow (e := 31) (r := r41) (by repeat (first | exact Has.head | apply Has.tail))) (OkL.row (e := 31) (r := r41) (by repeat (first | exact Has.head | apply Has.tail))) (of_decide_eq_true hb43) (fun r42 => ?_))
      refine ow_ev ev_nilcheck ?_
      refine ow_ev (ev_field_addr 4) ?_
      refine ow_cons (st_store_own (b := b1) (l' := [.slice r17.a ((lb_1_0 ++ ([y14] : List Str)).length) r17.cap, .slice (⟨none, 0, (fun _ => ())⟩ : SR (GoRep.R Str)  ).a (([] : List Str).length) (⟨none, 0, (fun _ => ())⟩ : SR (GoRep.R Str)  ).cap, .slice rb_2_2.a lb_2_2.length rb_2_2.cap, .slice (⟨none, 0, (fun _ => ())⟩ : SR (GoRep.R Link)    ).a (([] : List Link).length) (⟨none, 0, (fun _ => ())⟩ : SR (GoRep.R Link)    ).cap, .slice r42.a ((lb_1_4 ++ ([lt_2] : List (List Int))).length) r42.cap, .slice (⟨none, 0, (fun _ => (⟨none, 0, (fun _ => ())⟩ : SR (GoRep.R Int)))⟩ : SR (GoRep.R (List Int))      ).a (([] : List (List Int)).length) (⟨none, 0, (fun _ => (⟨none, 0, (fun _ => ())⟩ : SR (GoRep.R Int)))⟩ : SR (GoRep.R (List Int))      ).cap, .slice (⟨none, 0, (fun _ => (⟨none, 0, (fun _ => ())⟩ : SR (GoRep.R Int)))⟩ : SR (GoRep.R (List Int))       ).a (([] : List (List Int)).length) (⟨none, 0, (fun _ => (⟨none, 0, (fun _ => ())⟩ : SR (GoRep.R Int)))⟩ : SR (GoRep.R (List Int))       ).cap]) (k := ?_))
      refine ow_nil (hK8 _ _ ?_); clear hK8
      dsimp only [keep_row_k2] at hM
      refine cw_region ?_
      refine ow_ev ev_move ?_
      obtain ⟨hI44, hM⟩ := chk_some hM
      refine ow_ev (ev_add (hr := fun hg => i64b_I64 hI44)) ?_
      refine ow_ev ev_assign ?_
      refine ow_nil (hL1 (nn1, (b_s0_2_1, (lb_1_0 ++ ([y14] : List Str)), lb_2_2, (lb_1_4 ++ ([lt_2] : List (List Int))), i_1 + 1), (r17, rb_2_2, r42)) _ _ (eqc hcont1 hM) (Nat.lt_succ_self _) ⟨rfl, rfl, rfl, rfl, trivial⟩ (fun w hm => hm.reord))
  ·
    replace hM := (ite_f hc13).symm.trans hM
    refine cw_exit (hK4 _ _ ?_); clear hK4
    dsimp only [keep_row_k1] at hM
    refine cw_seq fun K18 hK18 => ?_
    refine cw_seq fun K19 hK19 => ?_
    refine cw_region ?_
    refine ow_ev ev_assign ?_
    refine ow_nil (hK19 _ _ ?_); clear hK19
    refine cw_block ?_
    refine cw_loop (γ := Nat × (Int × (List Str) × (List Section) × (List Link) × (List (List Int)) × Nat) × ((SR (GoRep.R Str)) × (SR (GoRep.R Section)) × (SR (GoRep.R Link)) × (SR (GoRep.R (List Int))))) (env := fun (_, (b_s0_3_1, lb_3_1, lb_3_2, lb_3_3, lb_3_5, i_3), (rb_3_1, rb_3_2, rb_3_3, rb_3_5)) => [(0, .v (.pointer (some ⟨b_s0, 0, none⟩))), (3, .v (.pointer (some ⟨b1, 0, none⟩))), (4, .v (.int .i64 (2 + y2.1))), (9, .v (.int .i64 (i_3 : Int)))]) (mem := fun (_, (b_s0_3_1, lb_3_1, lb_3_2, lb_3_3, lb_3_5, i_3), (rb_3_1, rb_3_2, rb_3_3, rb_3_5)) => [imm (α := (List Int)) r_s0 s0.l, own b_s0 106 [.slice r_s0.a s0.l.length r_s0.cap, .int .i64 b_s0_3_1], trow 9 rb_1_0 lb_1_0, trow 9 rb_3_1 lb_3_1, trow 57 rb_3_2 lb_3_2, trow 72 rb_3_3 lb_3_3, trow 31 rb_1_4 lb_1_4, trow 31 rb_3_5 lb_3_5, trow 31 (⟨none, 0, (fun _ => (⟨none, 0, (fun _ => ())⟩ : SR (GoRep.R Int)))⟩ : SR (GoRep.R (List Int))       ) ([] : List (List Int)), own b1 61 [.slice rb_1_0.a lb_1_0.length rb_1_0.cap, .slice rb_3_1.a lb_3_1.length rb_3_1.cap, .slice rb_3_2.a lb_3_2.length rb_3_2.cap, .slice rb_3_3.a lb_3_3.length rb_3_3.cap, .slice rb_1_4.a lb_1_4.length rb_1_4.cap, .slice rb_3_5.a lb_3_5.length rb_3_5.cap, .slice (⟨none, 0, (fun _ => (⟨none, 0, (fun _ => ())⟩ : SR (GoRep.R Int)))⟩ : SR (GoRep.R (List Int))       ).a (([] : List (List Int)).length) (⟨none, 0, (fun _ => (⟨none, 0, (fun _ => ())⟩ : SR (GoRep.R Int)))⟩ : SR (GoRep.R (List Int))       ).cap]]) (R := fun g => iter (keep_row_b3 y2 s0 lb_1_0 lb_1_4) g.1 g.2.1 = some y) (μ := fun g => g.1) (FUEL, (b_s0_1_1, ([] : List Str), lb_1_2, ([] : List Link), ([] : List (List Int)), 0), ((⟨none, 0, (fun _ => ())⟩ : SR (GoRep.R Str)  ), rb_1_2, (⟨none, 0, (fun _ => ())⟩ : SR (GoRep.R Link)    ), (⟨none, 0, (fun _ => (⟨none, 0, (fun _ => ())⟩ : SR (GoRep.R Int)))⟩ : SR (GoRep.R (List Int))      ))) hM ⟨rfl, rfl, rfl, rfl, trivial⟩ (fun w hm => hm.reord) ?_
    clear hM
    intro g hM KL3 hL3
    obtain ⟨nn3, ⟨b_s0_3_1, lb_3_1, lb_3_2, lb_3_3, lb_3_5, i_3⟩, ⟨rb_3_1, rb_3_2, rb_3_3, rb_3_5⟩⟩ := g
    dsimp only at hM ⊢
    obtain ⟨nn3, cont3, rfl, hcont3, hM⟩ := iter_open' hM
    dsimp only [keep_row_b3] at hM
    refine cw_seq fun K20 hK20 => ?_
    refine cw_seq fun K21 hK21 => ?_
    refine cw_region ?_
    refine ow_ev ev_move ?_
    obtain ⟨hI45, hM⟩ := chk_some hM
    refine ow_ev (ev_add (hr := fun hg => i64b_I64 hI45)) ?_
    refine ow_ev ev_move ?_
    refine ow_ev ev_lss ?_
    refine ow_nil (hK21 _ _ ?_); clear hK21
    refine cw_cond rfl (fun hc46 => ?_) (fun hc46 => ?_)
    ·
      replace hM := (ite_t hc46).symm.trans hM
      refine cw_skip (hK20 _ _ ?_); clear hK20
      refine cw_seq fun K22 hK22 => ?_
      refine cw_block ?_
      refine cw_seq fun K23 hK23 => ?_
      refine cw_region ?_
      refine ow_ev ev_assign ?_
      refine ow_nil (hK23 _ _ ?_); clear hK23
      refine cw_seq fun K24 hK24 => ?_
      refine cw_seq fun K25 hK25 => ?_
      refine cw_region ?_
      refine ow_ev ev_move ?_
      obtain ⟨y47, hy48, hM⟩ := bind_some hM
      refine ow_cons (st_callF (by repeat (first | exact SelL.nil | (apply SelL.cons; · (repeat (first | exact Sel.head | apply Sel.tail))))) (fun S w hs hP => keep_Source_Next_spec _ w b_s0 (Keep_Source.mk s0.l b_s0_3_1) r_s0 2 y47 hy48 hP (Kn.lend (Kn.imm (α := List Int) (r := r_s0) (x := s0.l) (by repeat (first | exact Has.head | apply Has.tail))) hs)) (by intro r c hc; simp only [List.mem_cons, List.not_mem_nil, or_false] at hc; rcases hc with rfl <;> first | exact flatC_own | exact flatC_trow (fun _ _ _ _ => trivial)) (fun r49 => ?_))
      dsimp only [List.cons_append, List.nil_append]
      obtain ⟨hI50, hM⟩ := chk_some hM
      refine ow_ev (ev_add (hr := fun hg => i64b_I64 hI50)) ?_
      refine ow_ev ev_assign ?_
      refine ow_nil (hK25 _ _ ?_); clear hK25
      refine cw_block ?_
      refine cw_imp (fun w hm => hm.row_nil (α := Int) 3 (fun _ => ())) ?_
      refine cw_loop (γ := Nat × (Int × (List Section) × (List Int) × Int) × ((SR (GoRep.R Section)) × (SR (GoRep.R Int)))) (env := fun (_, (b_s0_4_1, lb_4_2, lt_4, k_4), (rb_4_2, rt_4)) => [(0, .v (.pointer (some ⟨b_s0, 0, none⟩))), (3, .v (.pointer (some ⟨b1, 0, none⟩))), (4, .v (.int .i64 (2 + y2.1))), (9, .v (.int .i64 (i_3 : Int))), (10, .v (.slice rt_4.a lt_4.length rt_4.cap)), (11, .v (.int .i64 k_4))]) (mem := fun (_, (b_s0_4_1, lb_4_2, lt_4, k_4), (rb_4_2, rt_4)) => [imm (α := (List Int)) r_s0 s0.l, own b_s0 106 [.slice r_s0.a s0.l.length r_s0.cap, .int .i64 b_s0_4_1], trow 9 rb_1_0 lb_1_0, trow 9 rb_3_1 lb_3_1, trow 57 rb_4_2 lb_4_2, trow 72 rb_3_3 lb_3_3, trow 31 rb_1_4 lb_1_4, trow 31 rb_3_5 lb_3_5, trow 31 (⟨none, 0, (fun _ => (⟨none, 0, (fun _ => ())⟩ : SR (GoRep.R Int)))⟩ : SR (GoRep.R (List Int))       ) ([] : List (List Int)), own b1 61 [.slice rb_1_0.a lb_1_0.length rb_1_0.cap, .slice rb_3_1.a lb_3_1.length rb_3_1.cap, .slice rb_4_2.a lb_4_2.length rb_4_2.cap, .slice rb_3_3.a lb_3_3.length rb_3_3.cap, .slice rb_1_4.a lb_1_4.length rb_1_4.cap, .slice rb_3_5.a lb_3_5.length rb_3_5.cap, .slice (⟨none, 0, (fun _ => (⟨none, 0, (fun _ => ())⟩ : SR (GoRep.R Int)))⟩ : SR (GoRep.R (List Int))       ).a (([] : List (List Int)).length) (⟨none, 0, (fun _ => (⟨none, 0, (fun _ => ())⟩ : SR (GoRep.R Int)))⟩ : SR (GoRep.R (List Int))       ).cap], trow 3 rt_4 lt_4]) (R := fun g => iter (keep_row_b4 i_3 s0 lb_1_0 lb_3_1 lb_3_3 lb_1_4 lb_3_5 cont3) g.1 g.2.1 = some y) (μ := fun g => g.1) (FUEL, (y47.2, lb_3_2, ([] : List Int), (1 + y47.1)), (rb_3_2, (⟨none, 0, (fun _ => ())⟩ : SR (GoRep.R Int)                                     ))) hM ⟨rfl, rfl, rfl, rfl, rfl, rfl, trivial⟩ (fun w hm => hm.reord) ?_
      clear hM
      intro g hM KL4 hL4
      obtain ⟨nn4, ⟨b_s0_4_1, lb_4_2, lt_4, k_4⟩, ⟨rb_4_2, rt_4⟩⟩ := g
      dsimp only at hM ⊢
      obtain ⟨nn4, cont4, rfl, hcont4, hM⟩ := iter_open' hM
      dsimp only [keep_row_b4] at hM
      refine cw_seq fun K26 hK26 => ?_
      refine cw_seq fun K27 hK27 => ?_
      refine cw_region ?_
      refine ow_ev ev_move ?_
      refine ow_ev ev_gtr ?_
      refine ow_nil (hK27 _ _ ?_); clear hK27
      refine cw_cond rfl (fun hc52 => ?_) (fun hc52 => ?_)
      ·
        replace hM := (ite_t hc52).symm.trans hM
        refine cw_skip (hK26 _ _ ?_); clear hK26
        refine cw_seq fun K28 hK28 => ?_
        refine cw_block ?_
        refine cw_region ?_
        refine ow_ev ev_move ?_
        refine ow_ev ev_move ?_
        refine ow_ev ev_move ?_
        refine ow_ev ev_move ?_
        obtain ⟨y53, hy54, hM⟩ := bind_some hM
        refine ow_cons (st_callv (fun w hm => let ⟨S, hs⟩ := hm; keep_named_spec _ w (⟨[76]⟩ : Str) (i_3 : Int) y53 hy54 (lend_lt hs) ) ?_)
        refine ow_ev ev_move ?_
        obtain ⟨y55, hy56, hM⟩ := bind_some hM
        refine ow_cons (st_callv (fun w hm => let ⟨S, hs⟩ := hm; keep_named_spec _ w y53 k_4 y55 hy56 (lend_lt hs) ) ?_)
        obtain ⟨y57, hy58, hM⟩ := bind_some hM
        refine ow_cons (st_callF (by repeat (first | exact SelL.nil | (apply SelL.cons; · (repeat (first | exact Sel.head | apply Sel.tail))))) (fun S w hs hP => keep_Source_section_spec _ w b_s0 (Keep_Source.mk s0.l b_s0_4_1) r_s0 y55 (-1) y57 hy58 hP (Kn.lend (Kn.imm (α := List Int) (r := r_s0) (x := s0.l) (by repeat (first | exact Has.head | apply Has.tail))) hs)) (by intro r c hc; simp only [List.mem_cons, List.not_mem_nil, or_false] at hc; rcases hc with rfl <;> first | exact flatC_own | exact flatC_trow (fun _ _ _ _ => trivial)) (fun r59 => ?_))
        dsimp only [List.cons_append, List.nil_append]
        obtain ⟨y60, hy61, hM⟩ := bind_some hM
        refine ow_cons (st_callS (by repeat (first | exact SelL.nil | (apply SelL.cons; · (repeat (first | exact Sel.head | apply Sel.tail))))) (fun S w hs hP => keep_builder_add_spec _ w b1 (Keep_builder.mk (Layout.mk lb_1_0 lb_3_1 lb_4_2 lb_3_3) lb_1_4 lb_3_5 ([] : List (List Int))) ((rb_1_0, rb_3_1, rb_4_2, rb_3_3), rb_1_4, rb_3_5, (⟨none, 0, (fun _ => (⟨none, 0, (fun _ => ())⟩ : SR (GoRep.R Int)))⟩ : SR (GoRep.R (List Int))       )) y57.1 y60 hy61 hP )  (fun r62 => ?_))
        dsimp only [List.cons_append, List.nil_append]
        refine ow_cons (st_bslice (α := Int) 3 (fun _ => ()) ([y60.1] : List Int) (OkL.flat (fun _ _ _ _ => trivial)) (fun r63 => ?_))
        obtain ⟨hb65, hM⟩ := chk_some hM
        refine ow_cons (st_append (r := rt_4) (r2 := r63) (by intro r'; repeat (first | exact Upd.head | apply Upd.tail)) (Kn.trow (e := 3) (r := r63) (by repeat (first | exact Has.head | apply Has.tail))) (OkL.flat (fun _ _ _ _ => trivial)) (of_decide_eq_true hb65) (fun r64 => ?_))
        refine ow_ev ev_assign ?_
        refine ow_nil (hK28 _ _ ?_); clear hK28
        refine cw_region ?_
        refine ow_ev ev_move ?_
        obtain ⟨hI66, hM⟩ := chk_some hM
        refine ow_ev (ev_sub (hr := fun hg => i64b_I64 hI66)) ?_
        refine ow_ev ev_assign ?_
        refine ow_nil (hL4 (nn4, (y57.2, y60.2, (lt_4 ++ ([y60.1] : List Int)), (k_4 - 1)), (r62, r64)) _ _ (eqc hcont4 hM) (Nat.lt_succ_self _) ⟨rfl, rfl, rfl, rfl, rfl, rfl, trivial⟩ (fun w hm => hm.reord))
      ·
        replace hM := (ite_f hc52).symm.trans hM
        refine cw_exit (hK24 _ _ ?_); clear hK24
        dsimp only [keep_row_k6] at hM
        refine cw_seq fun K29 hK29 => ?_
        refine cw_seq fun K30 hK30 => ?_
        refine cw_region ?_
        refine ow_ev ev_assign ?_
        refine ow_nil (hK30 _ _ ?_); clear hK30
        refine cw_block ?_
        refine cw_loop (γ := Nat × ((List Link) × Nat) × (SR (GoRep.R Link))) (env := fun (_, (lb_5_3, k_5), rb_5_3) => [(0, .v (.pointer (some ⟨b_s0, 0, none⟩))), (3, .v (.pointer (some ⟨b1, 0, none⟩))), (4, .v (.int .i64 (2 + y2.1))), (9, .v (.int .i64 (i_3 : Int))), (10, .v (.slice rt_4.a lt_4.length rt_4.cap)), (12, .v (.int .i64 (k_5 : Int)))]) (mem := fun (_, (lb_5_3, k_5), rb_5_3) => [imm (α := (List Int)) r_s0 s0.l, own b_s0 106 [.slice r_s0.a s0.l.length r_s0.cap, .int .i64 b_s0_4_1], trow 9 rb_1_0 lb_1_0, trow 9 rb_3_1 lb_3_1, trow 57 rb_4_2 lb_4_2, trow 72 rb_5_3 lb_5_3, trow 31 rb_1_4 lb_1_4, trow 31 rb_3_5 lb_3_5, trow 31 (⟨none, 0, (fun _ => (⟨none, 0, (fun _ => ())⟩ : SR (GoRep.R Int)))⟩ : SR (GoRep.R (List Int))       ) ([] : List (List Int)), own b1 61 [.slice rb_1_0.a lb_1_0.length rb_1_0.cap, .slice rb_3_1.a lb_3_1.length rb_3_1.cap, .slice rb_4_2.a lb_4_2.length rb_4_2.cap, .slice rb_5_3.a lb_5_3.length rb_5_3.cap, .slice rb_1_4.a lb_1_4.length rb_1_4.cap, .slice rb_3_5.a lb_3_5.length rb_3_5.cap, .slice (⟨none, 0, (fun _ => (⟨none, 0, (fun _ => ())⟩ : SR (GoRep.R Int)))⟩ : SR (GoRep.R (List Int))       ).a (([] : List (List Int)).length) (⟨none, 0, (fun _ => (⟨none, 0, (fun _ => ())⟩ : SR (GoRep.R Int)))⟩ : SR (GoRep.R (List Int))       ).cap], trow 3 rt_4 lt_4]) (R := fun g => iter (keep_row_b5 lt_4 lb_1_0 lb_3_1 lb_4_2 lb_1_4 lb_3_5 i_3 cont3 b_s0_4_1) g.1 g.2.1 = some y) (μ := fun g => g.1) (FUEL, (lb_3_3, 0), rb_3_3) hM ⟨rfl, rfl, rfl, rfl, rfl, rfl, trivial⟩ (fun w hm => hm.reord) ?_
        clear hM
        intro g hM KL5 hL5
        obtain ⟨nn5, ⟨lb_5_3, k_5⟩, rb_5_3⟩ := g
        dsimp only at hM ⊢
        obtain ⟨nn5, cont5, rfl, hcont5, hM⟩ := iter_open' hM
        dsimp only [keep_row_b5] at hM
        refine cw_seq fun K31 hK31 => ?_
        refine cw_seq fun K32 hK32 => ?_
        refine cw_region ?_
        refine ow_ev ev_move ?_
        obtain ⟨hI67, hM⟩ := chk_some hM
        refine ow_ev (ev_add (hr := fun hg => i64b_I64 hI67)) ?_
        refine ow_ev ev_move ?_
        refine ow_ev ev_len ?_
        refine ow_ev ev_lss ?_
        refine ow_nil (hK32 _ _ ?_); clear hK32
        refine cw_cond rfl (fun hc68 => ?_) (fun hc68 => ?_)
        ·
          replace hM := (ite_t hc68).symm.trans hM
          refine cw_skip (hK31 _ _ ?_); clear hK31
          refine cw_seq fun K33 hK33 => ?_
          refine cw_block ?_
          refine cw_region_z [imm (α := (List Int)) r_s0 s0.l, own b_s0 106 [.slice r_s0.a s0.l.length r_s0.cap, .int .i64 b_s0_4_1], trow 9 rb_1_0 lb_1_0, trow 9 rb_3_1 lb_3_1, trow 57 rb_4_2 lb_4_2, trow 72 rb_5_3 lb_5_3, trow 31 rb_1_4 lb_1_4, trow 31 rb_3_5 lb_3_5, trow 31 (⟨none, 0, (fun _ => (⟨none, 0, (fun _ => ())⟩ : SR (GoRep.R Int)))⟩ : SR (GoRep.R (List Int))       ) ([] : List (List Int)), own b1 61 [.slice rb_1_0.a lb_1_0.length rb_1_0.cap, .slice rb_3_1.a lb_3_1.length rb_3_1.cap, .slice rb_4_2.a lb_4_2.length rb_4_2.cap, .slice rb_5_3.a lb_5_3.length rb_5_3.cap, .slice rb_1_4.a lb_1_4.length rb_1_4.cap, .slice rb_3_5.a lb_3_5.length rb_3_5.cap, .slice (⟨none, 0, (fun _ => (⟨none, 0, (fun _ => ())⟩ : SR (GoRep.R Int)))⟩ : SR (GoRep.R (List Int))       ).a (([] : List (List Int)).length) (⟨none, 0, (fun _ => (⟨none, 0, (fun _ => ())⟩ : SR (GoRep.R Int)))⟩ : SR (GoRep.R (List Int))       ).cap], trow 3 rt_4 lt_4] 10 ?_
          refine az_ev 0 rfl ev_move ?_
          refine az_ev 1 rfl ev_move ?_
          refine az_ev 2 rfl ev_move ?_
          obtain ⟨x69, hx70, hM⟩ := bind_some hM
          refine az_ev 3 rfl (ev_idx (xs := lt_4) 1 (Kn.trow (e := 3) (r := rt_4) (by repeat (first | exact Has.head | apply Has.tail))) (fun hg => let h := idx_some hx70; ⟨h.1, h.2.1⟩)) ?_
          refine az_ev 4 rfl (ev_ld (i := (k_5 : Int)) (xs := lt_4) (y := x69) 0 (Kn.trow (e := 3) (r := rt_4) (by repeat (first | exact Has.head | apply Has.tail))) (fun _ => hx70)) ?_
          refine az_ev 5 rfl ev_move ?_
          refine az_ev 6 rfl ev_move ?_
          obtain ⟨hI71, hM⟩ := chk_some hM
          refine az_ev 7 rfl (ev_add (hr := fun hg => i64b_I64 hI71)) ?_
          obtain ⟨x72, hx73, hM⟩ := bind_some hM
          refine az_ev 8 rfl (ev_idx (xs := lt_4) 1 (Kn.trow (e := 3) (r := rt_4) (by repeat (first | exact Has.head | apply Has.tail))) (fun hg => let h := idx_some hx73; ⟨h.1, h.2.1⟩)) ?_
          refine az_ev 9 rfl (ev_ld (i := ((k_5 : Int) + 1)) (xs := lt_4) (y := x72) 0 (Kn.trow (e := 3) (r := rt_4) (by repeat (first | exact Has.head | apply Has.tail))) (fun _ => hx73)) ?_
          obtain ⟨y74, hy75, hM⟩ := bind_some hM
          refine az_last rfl (st_callS (by repeat (first | exact SelL.nil | (apply SelL.cons; · (repeat (first | exact Sel.head | apply Sel.tail))))) (fun S w hs hP => keep_builder_link_spec _ w b1 (Keep_builder.mk (Layout.mk lb_1_0 lb_3_1 lb_4_2 lb_5_3) lb_1_4 lb_3_5 ([] : List (List Int))) ((rb_1_0, rb_3_1, rb_4_2, rb_5_3), rb_1_4, rb_3_5, (⟨none, 0, (fun _ => (⟨none, 0, (fun _ => ())⟩ : SR (GoRep.R Int)))⟩ : SR (GoRep.R (List Int))       )) x69 x72 (-1) 0 y74 hy75 hP )  (fun r76 => ?_))
          dsimp only [List.cons_append, List.nil_append]
          refine az_done (hK33 _ _ ?_); clear hK33
          refine cw_region ?_
          refine ow_ev ev_move ?_
          obtain ⟨hI77, hM⟩ := chk_some hM
          refine ow_ev (ev_add (hr := fun hg => i64b_I64 hI77)) ?_
          refine ow_ev ev_assign ?_
          refine ow_nil (hL5 (nn5, (y74, k_5 + 1), r76) _ _ (eqc hcont5 hM) (Nat.lt_succ_self _) ⟨rfl, rfl, rfl, rfl, rfl, rfl, trivial⟩ (fun w hm => hm.reord))
        ·
          replace hM := (ite_f hc68).symm.trans hM
          refine cw_exit (hK29 _ _ ?_); clear hK29
          dsimp only [keep_row_k7] at hM
          refine cw_seq fun K34 hK34 => ?_
          refine cw_region_z [imm (α := (List Int)) r_s0 s0.l, own b_s0 106 [.slice r_s0.a s0.l.length r_s0.cap, .int .i64 b_s0_4_1], trow 9 rb_1_0 lb_1_0, trow 9 rb_3_1 lb_3_1, trow 57 rb_4_2 lb_4_2, trow 72 rb_5_3 lb_5_3, trow 31 rb_1_4 lb_1_4, trow 31 rb_3_5 lb_3_5, trow 31 (⟨none, 0, (fun _ => (⟨none, 0, (fun _ => ())⟩ : SR (GoRep.R Int)))⟩ : SR (GoRep.R (List Int))       ) ([] : List (List Int)), own b1 61 [.slice rb_1_0.a lb_1_0.length rb_1_0.cap, .slice rb_3_1.a lb_3_1.length rb_3_1.cap, .slice rb_4_2.a lb_4_2.length rb_4_2.cap, .slice rb_5_3.a lb_5_3.length rb_5_3.cap, .slice rb_1_4.a lb_1_4.length rb_1_4.cap, .slice rb_3_5.a lb_3_5.length rb_3_5.cap, .slice (⟨none, 0, (fun _ => (⟨none, 0, (fun _ => ())⟩ : SR (GoRep.R Int)))⟩ : SR (GoRep.R (List Int))       ).a (([] : List (List Int)).length) (⟨none, 0, (fun _ => (⟨none, 0, (fun _ => ())⟩ : SR (GoRep.R Int)))⟩ : SR (GoRep.R (List Int))       ).cap], trow 3 rt_4 lt_4] 11 ?_
          refine az_ev 0 rfl ev_move ?_
          refine az_ev 1 rfl ev_move ?_
          obtain ⟨x78, hx79, hM⟩ := bind_some hM
          refine az_ev 2 rfl (ev_idx (xs := lt_4) 1 (Kn.trow (e := 3) (r := rt_4) (by repeat (first | exact Has.head | apply Has.tail))) (fun hg => let h := idx_some hx79; ⟨h.1, h.2.1⟩)) ?_
          refine az_ev 3 rfl (ev_ld (i := 0) (xs := lt_4) (y := x78) 0 (Kn.trow (e := 3) (r := rt_4) (by repeat (first | exact Has.head | apply Has.tail))) (fun _ => hx79)) ?_
          refine az_ev 4 rfl ev_move ?_
          refine az_ev 5 rfl ev_nilcheck ?_
          refine az_ev 6 rfl (ev_field_addr 4) ?_
          refine az_ev 7 rfl (ev_load_own (b := b1)) ?_
          refine az_ev 8 rfl ev_move ?_
          obtain ⟨x80, hx81, hM⟩ := bind_some hM
          refine az_ev 9 rfl (ev_idx (xs := lb_1_4) 1 (Kn.trow (e := 31) (r := rb_1_4) (by repeat (first | exact Has.head | apply Has.tail))) (fun hg => let h := idx_some hx81; ⟨h.1, h.2.1⟩)) ?_
          refine az_ev 10 rfl (ev_ld (i := (i_3 : Int)) (xs := lb_1_4) (y := x80) 0 (Kn.trow (e := 31) (r := rb_1_4) (by repeat (first | exact Has.head | apply Has.tail))) (fun _ => hx81)) ?_
          refine az_imp (fun w hm => hm.immAdd (α := List Int) (r := (rb_1_4.es (i_3 : Int).toNat)) (x := x80) (fun S hs => (Sk.row (e := 31) (r := rb_1_4) (by repeat (first | exact Has.head | apply Has.tail)) hx81) S w hs)) ?_
          obtain ⟨y82, hy83, hM⟩ := bind_some hM
          refine az_last rfl (st_callS (by repeat (first | exact SelL.nil | (apply SelL.cons; · (repeat (first | exact Sel.head | apply Sel.tail))))) (fun S w hs hP => keep_builder_fan_spec _ w b1 (Keep_builder.mk (Layout.mk lb_1_0 lb_3_1 lb_4_2 lb_5_3) lb_1_4 lb_3_5 ([] : List (List Int))) ((rb_1_0, rb_3_1, rb_4_2, rb_5_3), rb_1_4, rb_3_5, (⟨none, 0, (fun _ => (⟨none, 0, (fun _ => ())⟩ : SR (GoRep.R Int)))⟩ : SR (GoRep.R (List Int))       )) x78 x80 (rb_1_4.es (i_3 : Int).toNat) false y82 hy83 hP ((Sk.imm (α := List Int) (r := (rb_1_4.es (i_3 : Int).toNat)) (x := x80) (by repeat (first | exact Has.head | apply Has.tail))) S w hs))  (fun r84 => ?_))
          dsimp only [List.cons_append, List.nil_append]
          refine az_done (hK34 _ _ ?_); clear hK34
          refine cw_seq fun K35 hK35 => ?_
          refine cw_region_z [own b1 61 [.slice rb_1_0.a lb_1_0.length rb_1_0.cap, .slice r84.1.a y82.1.length r84.1.cap, .slice rb_4_2.a lb_4_2.length rb_4_2.cap, .slice r84.2.a y82.2.length r84.2.cap, .slice rb_1_4.a lb_1_4.length rb_1_4.cap, .slice rb_3_5.a lb_3_5.length rb_3_5.cap, .slice (⟨none, 0, (fun _ => (⟨none, 0, (fun _ => ())⟩ : SR (GoRep.R Int)))⟩ : SR (GoRep.R (List Int))       ).a (([] : List (List Int)).length) (⟨none, 0, (fun _ => (⟨none, 0, (fun _ => ())⟩ : SR (GoRep.R Int)))⟩ : SR (GoRep.R (List Int))       ).cap], trow 9 rb_1_0 lb_1_0, trow 9 r84.1 y82.1, trow 57 rb_4_2 lb_4_2, trow 72 r84.2 y82.2, trow 31 rb_1_4 lb_1_4, trow 31 rb_3_5 lb_3_5, trow 31 (⟨none, 0, (fun _ => (⟨none, 0, (fun _ => ())⟩ : SR (GoRep.R Int)))⟩ : SR (GoRep.R (List Int))       ) ([] : List (List Int)), imm (α := (List Int)) (rb_1_4.es (i_3 : Int).toNat) x80, imm (α := (List Int)) r_s0 s0.l, own b_s0 106 [.slice r_s0.a s0.l.length r_s0.cap, .int .i64 b_s0_4_1], trow 3 rt_4 lt_4] 15 ?_
          refine az_ev 0 rfl ev_move ?_
          refine az_ev 1 rfl ev_move ?_
          refine az_ev 2 rfl ev_move ?_
          refine az_ev 3 rfl ev_len ?_
          obtain ⟨hI85, hM⟩ := chk_some hM
          refine az_ev 4 rfl (ev_sub (hr := fun hg => i64b_I64 hI85)) ?_
          obtain ⟨x86, hx87, hM⟩ := bind_some hM
          refine az_ev 5 rfl (ev_idx (xs := lt_4) 1 (Kn.trow (e := 3) (r := rt_4) (by repeat (first | exact Has.head | apply Has.tail))) (fun hg => let h := idx_some hx87; ⟨h.1, h.2.1⟩)) ?_
          refine az_ev 6 rfl (ev_ld (i := ((lt_4.length : Int) - 1)) (xs := lt_4) (y := x86) 0 (Kn.trow (e := 3) (r := rt_4) (by repeat (first | exact Has.head | apply Has.tail))) (fun _ => hx87)) ?_
          refine az_ev 7 rfl ev_move ?_
          refine az_ev 8 rfl ev_nilcheck ?_
          refine az_ev 9 rfl (ev_field_addr 4) ?_
          refine az_ev 10 rfl (ev_load_own (b := b1)) ?_
          refine az_ev 11 rfl ev_move ?_
          obtain ⟨hI88, hM⟩ := chk_some hM
          refine az_ev 12 rfl (ev_add (hr := fun hg => i64b_I64 hI88)) ?_
          obtain ⟨x89, hx90, hM⟩ := bind_some hM
          refine az_ev 13 rfl (ev_idx (xs := lb_1_4) 1 (Kn.trow (e := 31) (r := rb_1_4) (by repeat (first | exact Has.head | apply Has.tail))) (fun hg => let h := idx_some hx90; ⟨h.1, h.2.1⟩)) ?_
          refine az_ev 14 rfl (ev_ld (i := ((i_3 : Int) + 1)) (xs := lb_1_4) (y := x89) 0 (Kn.trow (e := 31) (r := rb_1_4) (by repeat (first | exact Has.head | apply Has.tail))) (fun _ => hx90)) ?_
          refine az_imp (fun w hm => hm.immAdd (α := List Int) (r := (rb_1_4.es ((i_3 : Int) + 1).toNat)) (x := x89) (fun S hs => (Sk.row (e := 31) (r := rb_1_4) (by repeat (first | exact Has.head | apply Has.tail)) hx90) S w hs)) ?_
          obtain ⟨y91, hy92, hM⟩ := bind_some hM
          refine az_last rfl (st_callS (by repeat (first | exact SelL.nil | (apply SelL.cons; · (repeat (first | exact Sel.head | apply Sel.tail))))) (fun S w hs hP => keep_builder_fan_spec _ w b1 (Keep_builder.mk (Layout.mk lb_1_0 y82.1 lb_4_2 y82.2) lb_1_4 lb_3_5 ([] : List (List Int))) ((rb_1_0, r84.1, rb_4_2, r84.2), rb_1_4, rb_3_5, (⟨none, 0, (fun _ => (⟨none, 0, (fun _ => ())⟩ : SR (GoRep.R Int)))⟩ : SR (GoRep.R (List Int))       )) x86 x89 (rb_1_4.es ((i_3 : Int) + 1).toNat) true y91 hy92 hP ((Sk.imm (α := List Int) (r := (rb_1_4.es ((i_3 : Int) + 1).toNat)) (x := x89) (by repeat (first | exact Has.head | apply Has.tail))) S w hs))  (fun r93 => ?_))
          dsimp only [List.cons_append, List.nil_append]
          refine az_done (hK35 _ _ ?_); clear hK35
          refine cw_region ?_
          refine ow_ev ev_move ?_
          refine ow_ev ev_move ?_
          refine ow_ev ev_nilcheck ?_
          refine ow_ev (ev_field_addr 5) ?_
          refine ow_ev (ev_load_own (b := b1)) ?_
          refine ow_ev ev_move ?_
          refine ow_imp (fun w hm => hm.freeze (r := rt_4) (by repeat (first | exact Upd.head | apply Upd.tail))) ?_
          refine ow_cons (st_bslice (α := List Int) 31 (fun _ => rt_4) ([lt_4] : List (List Int)) (OkL.cons (fun S w hs => ((Sk.imm (α := List Int) (r := rt_4) (x := lt_4) (by repeat (first | exact Has.head | apply Has.tail))) S w hs)) OkL.nil) (fun r94 => ?_))
          obtain ⟨hb96, hM⟩ := chk_some hM
          refine ow_cons (st_append (r := rb_3_5) (r2 := r94) (by intro r'; repeat (first | exact Upd.head | apply Upd.tail)) (Kn.trow (e := 31) (r := r94) (by repeat (first | exact Has.head | apply Has.tail))) (OkL.row (e := 31) (r := r94) (by repeat (first | exact Has.head | apply Has.tail))) (of_decide_eq_true hb96) (fun r95 => ?_))
          refine ow_ev ev_nilcheck ?_
          refine ow_ev (ev_field_addr 5) ?_
          refine ow_cons (st_store_own (b := b1) (l' := [.slice rb_1_0.a lb_1_0.length rb_1_0.cap, .slice r93.1.a y91.1.length r93.1.cap, .slice rb_4_2.a lb_4_2.length rb_4_2.cap, .slice r93.2.a y91.2.length r93.2.cap, .slice rb_1_4.a lb_1_4.length rb_1_4.cap, .slice r95.a ((lb_3_5 ++ ([lt_4] : List (List Int))).length) r95.cap, .slice (⟨none, 0, (fun _ => (⟨none, 0, (fun _ => ())⟩ : SR (GoRep.R Int)))⟩ : SR (GoRep.R (List Int))       ).a (([] : List (List Int)).length) (⟨none, 0, (fun _ => (⟨none, 0, (fun _ => ())⟩ : SR (GoRep.R Int)))⟩ : SR (GoRep.R (List Int))       ).cap]) (k := ?_))
          refine ow_nil (hK22 _ _ ?_); clear hK22
          dsimp only [keep_row_k5] at hM
          refine cw_region ?_
          refine ow_ev ev_move ?_
          obtain ⟨hI97, hM⟩ := chk_some hM
          refine ow_ev (ev_add (hr := fun hg => i64b_I64 hI97)) ?_
          refine ow_ev ev_assign ?_
          refine ow_nil (hL3 (nn3, (b_s0_4_1, y91.1, lb_4_2, y91.2, (lb_3_5 ++ ([lt_4] : List (List Int))), i_3 + 1), (r93.1, rb_4_2, r93.2, r95)) _ _ (eqc hcont3 hM) (Nat.lt_succ_self _) ⟨rfl, rfl, rfl, rfl, trivial⟩ (fun w hm => hm.reord))
    ·
      replace hM := (ite_f hc46).symm.trans hM
      refine cw_exit (hK18 _ _ ?_); clear hK18
      dsimp only [keep_row_k4] at hM
      refine cw_seq fun K36 hK36 => ?_
      refine cw_region ?_
      refine ow_ev ev_move ?_
      refine ow_ev ev_assign ?_
      refine ow_nil (hK36 _ _ ?_); clear hK36
      obtain rfl := some_inj hM
      refine cw_ret (kw_retc1 (fun w hm => post_of (b1, rb_1_0, rb_3_1, rb_3_2, rb_3_3, rb_1_4, rb_3_5, (⟨none, 0, (fun _ => (⟨none, 0, (fun _ => ())⟩ : SR (GoRep.R Int)))⟩ : SR (GoRep.R (List Int))       )) hm rfl))

def keep_Layout_m (l0 : List Int) : Option Layout :=
  (keep_From_m l0).bind fun y2 =>
  (keep_row_m y2).bind fun y5 =>
  some y5.1.l
theorem keep_Layout_spec (S : Soup) (w : World) (l0 : List Int) (r_l0 : GoRep.R (List Int)) (y : Layout) (hM : keep_Layout_m l0 = some y) (hS : ∀ k, S k → k < w.heap.size) (h_l0 : GoRep.ok S w r_l0 l0) :
    Calls Tryd.prog 12 #[.slice r_l0.a l0.length r_l0.cap] w (Post (β := (GoRep.R Layout)) S [] (fun g => .agg #[.slice g.1.a y.Stations.length g.1.cap, .slice g.2.1.a y.Points.length g.2.1.cap, .slice g.2.2.1.a y.Sections.length g.2.2.1.cap, .slice g.2.2.2.a y.Links.length g.2.2.2.cap]) (fun g => [trow 9 g.1 y.Stations, trow 9 g.2.1 y.Points, trow 57 g.2.2.1 y.Sections, trow 72 g.2.2.2 y.Links]) w) := by
  refine calls_cw (args := [_]) Tryd.func12 rfl ((pre_nil hS).start |>.immP (α := List Int) (r := r_l0) (x := l0) h_l0) rfl ?_
  unfold keep_Layout_m at hM
  refine cw_seq fun K1 hK1 => ?_
  refine cw_region ?_
  refine ow_cons (st_alloc rfl (k := fun b1 => ?_))
  refine ow_nil (hK1 _ _ ?_); clear hK1
  refine cw_seq fun K2 hK2 => ?_
  refine cw_region ?_
  refine ow_ev ev_move ?_
  obtain ⟨y2, hy3, hM⟩ := bind_some hM
  refine ow_cons (st_callS SelL.nil (fun S w hs hP => keep_From_spec _ w l0 r_l0 y2 hy3 hs.lt ((Sk.imm (α := List Int) (r := r_l0) (x := l0) (by repeat (first | exact Has.head | apply Has.tail))) S w hs))  (fun r4 => ?_))
  dsimp only [List.cons_append, List.nil_append]
  obtain ⟨y5, hy6, hM⟩ := bind_some hM
  refine ow_cons (st_callS (by repeat (first | exact SelL.nil | (apply SelL.cons; · (repeat (first | exact Sel.head | apply Sel.tail))))) (fun S w hs hP => keep_row_spec _ w r4.1 y2 r4.2 y5 hy6 hP ((Sk.imm (α := List Int) (r := r4.2) (x := y2.l) (by repeat (first | exact Has.head | apply Has.tail))) S w hs))  (fun r7 => ?_))
  dsimp only [List.cons_append, List.nil_append]
  refine ow_ev ev_nilcheck ?_
  refine ow_ev (ev_field_addr 0) ?_
  refine ow_ev (ev_load_part (b := r7.1) (o := 0) (l := [.slice r7.2.1.a y5.1.l.Stations.length r7.2.1.cap, .slice r7.2.2.1.a y5.1.l.Points.length r7.2.2.1.cap, .slice r7.2.2.2.1.a y5.1.l.Sections.length r7.2.2.2.1.cap, .slice r7.2.2.2.2.1.a y5.1.l.Links.length r7.2.2.2.2.1.cap, .slice r7.2.2.2.2.2.1.a y5.1.tracks.length r7.2.2.2.2.2.1.cap, .slice r7.2.2.2.2.2.2.1.a y5.1.between.length r7.2.2.2.2.2.2.1.cap, .slice r7.2.2.2.2.2.2.2.a y5.1.westward.length r7.2.2.2.2.2.2.2.cap]) (m := 4) (l' := [.slice r7.2.1.a y5.1.l.Stations.length r7.2.1.cap, .slice r7.2.2.1.a y5.1.l.Points.length r7.2.2.1.cap, .slice r7.2.2.2.1.a y5.1.l.Sections.length r7.2.2.2.1.cap, .slice r7.2.2.2.2.1.a y5.1.l.Links.length r7.2.2.2.2.1.cap])) ?_
  refine ow_cons (st_store_all (b := b1) (vs := [.slice r7.2.1.a y5.1.l.Stations.length r7.2.1.cap, .slice r7.2.2.1.a y5.1.l.Points.length r7.2.2.1.cap, .slice r7.2.2.2.1.a y5.1.l.Sections.length r7.2.2.2.1.cap, .slice r7.2.2.2.2.1.a y5.1.l.Links.length r7.2.2.2.2.1.cap]) (k := ?_))
  refine ow_nil (hK2 _ _ ?_); clear hK2
  obtain rfl := some_inj hM
  refine cw_ret (kw_retc1 (fun w hm => post_of (r7.2.1, r7.2.2.1, r7.2.2.2.1, r7.2.2.2.2.1) hm rfl))

end Go.Proofs.YtohhihdjdelckaaDoor

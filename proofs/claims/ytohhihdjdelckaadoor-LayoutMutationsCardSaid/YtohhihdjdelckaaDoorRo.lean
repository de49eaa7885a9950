/- Models of functions, and that the code computes them. -/
import Derived.Test.YtohhihdjdelckaaDoorRk
set_option linter.all false
namespace Go.Proofs.YtohhihdjdelckaaDoor
open Go.Dc Go.RowKit
set_option maxRecDepth 10000
def keep_Other_k2 : ((List Str) × (List Str) × (List Section) × (List Link)) → Option Layout := fun (lx_j2_0, lx_j2_1, lx_j2_2, lx_j2_3) =>
  some (Layout.mk lx_j2_0 lx_j2_1 lx_j2_2 lx_j2_3)
def keep_Other_k1 (l0 : Layout) (at0 : Int) (how0 : Int) (v0 : Int) : Unit → Option Layout := fun _ =>
  if decide (((([] : List Section) ++ l0.Sections).length : Int) = 0) then
    (some (Layout.mk (([] : List Str) ++ l0.Stations) (([] : List Str) ++ l0.Points) (([] : List Section) ++ l0.Sections) (([] : List Link) ++ l0.Links)))
  else
    ((keep_Pick_m at0 ((([] : List Section) ++ l0.Sections).length : Int)).bind fun y4 =>
    (idx (([] : List Section) ++ l0.Sections) y4).bind fun x6 =>
    (keep_Pick_m how0 12).bind fun y8 =>
    if decide (y8 = 0) then
      ((keep_Pick_m v0 403).bind fun y11 =>
      chk (i64b (y11 - 1)) <|
      keep_Other_k2 ((([] : List Str) ++ l0.Stations), (([] : List Str) ++ l0.Points), ((([] : List Section) ++ l0.Sections).set y4.toNat (Section.mk x6.Name (y11 - 1) x6.Limit x6.Grade x6.Station)), (([] : List Link) ++ l0.Links)))
    else
      (if decide (y8 = 1) then
        ((keep_Pick_m v0 102000).bind fun y16 =>
        keep_Other_k2 ((([] : List Str) ++ l0.Stations), (([] : List Str) ++ l0.Points), ((([] : List Section) ++ l0.Sections).set y4.toNat (Section.mk x6.Name x6.Length y16 x6.Grade x6.Station)), (([] : List Link) ++ l0.Links)))
      else
        (if decide (y8 = 2) then
          ((keep_Pick_m v0 85).bind fun y20 =>
          chk (i64b (y20 - 40)) <|
          chk (i64b ((y20 - 40) - 2)) <|
          keep_Other_k2 ((([] : List Str) ++ l0.Stations), (([] : List Str) ++ l0.Points), ((([] : List Section) ++ l0.Sections).set y4.toNat (Section.mk x6.Name x6.Length x6.Limit ((y20 - 40) - 2) x6.Station)), (([] : List Link) ++ l0.Links)))
        else
          (if decide (y8 = 3) then
            (chk (i64b (((([] : List Str) ++ l0.Stations).length : Int) + 3)) <|
            (keep_Pick_m v0 (((([] : List Str) ++ l0.Stations).length : Int) + 3)).bind fun y27 =>
            chk (i64b (y27 - 2)) <|
            keep_Other_k2 ((([] : List Str) ++ l0.Stations), (([] : List Str) ++ l0.Points), ((([] : List Section) ++ l0.Sections).set y4.toNat (Section.mk x6.Name x6.Length x6.Limit x6.Grade (y27 - 2))), (([] : List Link) ++ l0.Links)))
          else
            (if decide (y8 = 4) then
              ((keep_Pick_m v0 5).bind fun y33 =>
              (idx ([(⟨[]⟩ : Str), (⟨[88]⟩ : Str), (⟨[84, 48, 49]⟩ : Str), (⟨[49, 97]⟩ : Str), (⟨[97, 98, 99, 100, 101, 102, 103, 104, 105, 106, 107, 108, 109]⟩ : Str)] : List Str) y33).bind fun x35 =>
              keep_Other_k2 ((([] : List Str) ++ l0.Stations), (([] : List Str) ++ l0.Points), ((([] : List Section) ++ l0.Sections).set y4.toNat (Section.mk x35 x6.Length x6.Limit x6.Grade x6.Station)), (([] : List Link) ++ l0.Links)))
            else
              (if decide (y8 = 5) then
                ((keep_Pick_m v0 4).bind fun y39 =>
                (idx ([(⟨[83, 48]⟩ : Str), (⟨[83, 95, 57]⟩ : Str), (⟨[]⟩ : Str), (⟨[97, 45, 98]⟩ : Str)] : List Str) y39).bind fun x42 =>
                chk (decide (((([] : List Str) ++ l0.Stations).length + ([x42] : List Str).length) * 16 ≤ 140737488355328)) <|
                keep_Other_k2 (((([] : List Str) ++ l0.Stations) ++ ([x42] : List Str)), (([] : List Str) ++ l0.Points), (([] : List Section) ++ l0.Sections), (([] : List Link) ++ l0.Links)))
              else
                (if decide (y8 = 6) then
                  ((keep_Pick_m v0 3).bind fun y54 =>
                  (idx ([(⟨[80, 48]⟩ : Str), (⟨[81]⟩ : Str), (⟨[57]⟩ : Str)] : List Str) y54).bind fun x57 =>
                  chk (decide (((([] : List Str) ++ l0.Points).length + ([x57] : List Str).length) * 16 ≤ 140737488355328)) <|
                  keep_Other_k2 ((([] : List Str) ++ l0.Stations), ((([] : List Str) ++ l0.Points) ++ ([x57] : List Str)), (([] : List Section) ++ l0.Sections), (([] : List Link) ++ l0.Links)))
                else
                  (if decide (y8 = 7) then
                    (chk (i64b (((([] : List Section) ++ l0.Sections).length : Int) + 1)) <|
                    chk (decide (2 ≠ 0) && i64b (v0.tdiv 2)) <|
                    chk (i64b (((([] : List Section) ++ l0.Sections).length : Int) + 1)) <|
                    chk (decide (200 ≠ 0) && i64b (v0.tdiv 200)) <|
                    chk (decide (400 ≠ 0) && i64b (v0.tdiv 400)) <|
                    chk (i64b (((([] : List Str) ++ l0.Points).length : Int) + 2)) <|
                    chk (decide (7 ≠ 0) && i64b (v0.tdiv 7)) <|
                    (keep_Pick_m at0 (((([] : List Section) ++ l0.Sections).length : Int) + 1)).bind fun y76 =>
                    (keep_Pick_m v0 2).bind fun y78 =>
                    (keep_Pick_m (v0.tdiv 2) (((([] : List Section) ++ l0.Sections).length : Int) + 1)).bind fun y80 =>
                    (keep_Pick_m (v0.tdiv 200) 2).bind fun y82 =>
                    (keep_Pick_m (v0.tdiv 400) (((([] : List Str) ++ l0.Points).length : Int) + 2)).bind fun y84 =>
                    chk (i64b (y84 - 1)) <|
                    (keep_Pick_m (v0.tdiv 7) 2).bind fun y87 =>
                    chk (decide (((([] : List Link) ++ l0.Links).length + ([(Link.mk y76 y78 y80 y82 (y84 - 1) y87)] : List Link).length) * 48 ≤ 140737488355328)) <|
                    keep_Other_k2 ((([] : List Str) ++ l0.Stations), (([] : List Str) ++ l0.Points), (([] : List Section) ++ l0.Sections), ((([] : List Link) ++ l0.Links) ++ ([(Link.mk y76 y78 y80 y82 (y84 - 1) y87)] : List Link))))
                  else
                    (if decide (y8 = 8) then
                      (if decide (0 < ((([] : List Link) ++ l0.Links).length : Int)) then
                        ((keep_Pick_m at0 ((([] : List Link) ++ l0.Links).length : Int)).bind fun y94 =>
                        (idx (([] : List Link) ++ l0.Links) y94).bind fun x96 =>
                        chk (i64b (((([] : List Str) ++ l0.Points).length : Int) + 3)) <|
                        (keep_Pick_m v0 (((([] : List Str) ++ l0.Points).length : Int) + 3)).bind fun y99 =>
                        chk (i64b (y99 - 2)) <|
                        chk (decide (9 ≠ 0) && i64b (v0.tdiv 9)) <|
                        (keep_Pick_m (v0.tdiv 9) 3).bind fun y103 =>
                        keep_Other_k2 ((([] : List Str) ++ l0.Stations), (([] : List Str) ++ l0.Points), (([] : List Section) ++ l0.Sections), (((([] : List Link) ++ l0.Links).set y94.toNat (Link.mk x96.A x96.AEnd x96.B x96.BEnd (y99 - 2) x96.Pos)).set y94.toNat (Link.mk ((Link.mk x96.A x96.AEnd x96.B x96.BEnd (y99 - 2) x96.Pos).A) ((Link.mk x96.A x96.AEnd x96.B x96.BEnd (y99 - 2) x96.Pos).AEnd) ((Link.mk x96.A x96.AEnd x96.B x96.BEnd (y99 - 2) x96.Pos).B) ((Link.mk x96.A x96.AEnd x96.B x96.BEnd (y99 - 2) x96.Pos).BEnd) ((Link.mk x96.A x96.AEnd x96.B x96.BEnd (y99 - 2) x96.Pos).Point) y103))))
                      else
                        (keep_Other_k2 ((([] : List Str) ++ l0.Stations), (([] : List Str) ++ l0.Points), (([] : List Section) ++ l0.Sections), (([] : List Link) ++ l0.Links))))
                    else
                      (if decide (y8 = 9) then
                        (if decide (0 < ((([] : List Link) ++ l0.Links).length : Int)) then
                          ((keep_Pick_m at0 ((([] : List Link) ++ l0.Links).length : Int)).bind fun y109 =>
                          (sub (([] : List Link) ++ l0.Links) 0 y109).bind fun l111 =>
                          chk (i64b (y109 + 1)) <|
                          (sub (([] : List Link) ++ l0.Links) (y109 + 1) ((([] : List Link) ++ l0.Links).length : Int)).bind fun l115 =>
                          chk (decide ((l111.length + l115.length) * 48 ≤ 140737488355328)) <|
                          keep_Other_k2 ((([] : List Str) ++ l0.Stations), (([] : List Str) ++ l0.Points), (([] : List Section) ++ l0.Sections), (l111 ++ l115)))
                        else
                          (keep_Other_k2 ((([] : List Str) ++ l0.Stations), (([] : List Str) ++ l0.Points), (([] : List Section) ++ l0.Sections), (([] : List Link) ++ l0.Links))))
                      else
                        (if decide (y8 = 10) then
                          (if decide (0 < ((([] : List Link) ++ l0.Links).length : Int)) then
                            ((keep_Pick_m at0 ((([] : List Link) ++ l0.Links).length : Int)).bind fun y122 =>
                            (idx (([] : List Link) ++ l0.Links) y122).bind fun x124 =>
                            chk (decide (3 ≠ 0) && i64b (v0.tdiv 3)) <|
                            chk (i64b (((([] : List Section) ++ l0.Sections).length : Int) + 1)) <|
                            (keep_Pick_m v0 3).bind fun y128 =>
                            (keep_Pick_m (v0.tdiv 3) (((([] : List Section) ++ l0.Sections).length : Int) + 1)).bind fun y130 =>
                            keep_Other_k2 ((([] : List Str) ++ l0.Stations), (([] : List Str) ++ l0.Points), (([] : List Section) ++ l0.Sections), (((([] : List Link) ++ l0.Links).set y122.toNat (Link.mk x124.A y128 x124.B x124.BEnd x124.Point x124.Pos)).set y122.toNat (Link.mk ((Link.mk x124.A y128 x124.B x124.BEnd x124.Point x124.Pos).A) ((Link.mk x124.A y128 x124.B x124.BEnd x124.Point x124.Pos).AEnd) y130 ((Link.mk x124.A y128 x124.B x124.BEnd x124.Point x124.Pos).BEnd) ((Link.mk x124.A y128 x124.B x124.BEnd x124.Point x124.Pos).Point) ((Link.mk x124.A y128 x124.B x124.BEnd x124.Point x124.Pos).Pos)))))
                          else
                            (keep_Other_k2 ((([] : List Str) ++ l0.Stations), (([] : List Str) ++ l0.Points), (([] : List Section) ++ l0.Sections), (([] : List Link) ++ l0.Links))))
                        else
                          (chk (decide (((([] : List Section) ++ l0.Sections).length + ([x6] : List Section).length) * 48 ≤ 140737488355328)) <|
                          keep_Other_k2 ((([] : List Str) ++ l0.Stations), (([] : List Str) ++ l0.Points), ((([] : List Section) ++ l0.Sections) ++ ([x6] : List Section)), (([] : List Link) ++ l0.Links))))))))))))))
def keep_Other_m (l0 : Layout) (how0 : Int) (at0 : Int) (v0 : Int) : Option Layout :=
  chk (decide ((([] : List Str).length + l0.Stations.length) * 16 ≤ 140737488355328)) <|
  chk (decide ((([] : List Str).length + l0.Points.length) * 16 ≤ 140737488355328)) <|
  chk (decide ((([] : List Section).length + l0.Sections.length) * 48 ≤ 140737488355328)) <|
  chk (decide ((([] : List Link).length + l0.Links.length) * 48 ≤ 140737488355328)) <|
  keep_Other_k1 l0 at0 how0 v0 ()
theorem keep_Other_spec (S : Soup) (w : World) (l0 : Layout) (r_l0 : GoRep.R Layout) (how0 : Int) (at0 : Int) (v0 : Int) (y : Layout) (hM : keep_Other_m l0 how0 at0 v0 = some y) (hS : ∀ k, S k → k < w.heap.size) (h_l0 : GoRep.ok S w r_l0 l0) :
    Calls Tryd.prog 15 #[.agg #[.slice r_l0.1.a l0.Stations.length r_l0.1.cap, .slice r_l0.2.1.a l0.Points.length r_l0.2.1.cap, .slice r_l0.2.2.1.a l0.Sections.length r_l0.2.2.1.cap, .slice r_l0.2.2.2.a l0.Links.length r_l0.2.2.2.cap], .int .i64 how0, .int .i64 at0, .int .i64 v0] w (Post (β := (GoRep.R Layout)) S [] (fun g => .agg #[.slice g.1.a y.Stations.length g.1.cap, .slice g.2.1.a y.Points.length g.2.1.cap, .slice g.2.2.1.a y.Sections.length g.2.2.1.cap, .slice g.2.2.2.a y.Links.length g.2.2.2.cap]) (fun g => [trow 9 g.1 y.Stations, trow 9 g.2.1 y.Points, trow 57 g.2.2.1 y.Sections, trow 72 g.2.2.2 y.Links]) w) := by
  refine calls_cw (args := [_, _, _, _]) Tryd.func15 rfl ((pre_nil hS).start |>.immP (α := List Str) (r := r_l0.1) (x := l0.Stations) h_l0.1|>.immP (α := List Str) (r := r_l0.2.1) (x := l0.Points) h_l0.2.1|>.immP (α := List Section) (r := r_l0.2.2.1) (x := l0.Sections) h_l0.2.2.1|>.immP (α := List Link) (r := r_l0.2.2.2) (x := l0.Links) h_l0.2.2.2) rfl ?_
  unfold keep_Other_m at hM
  refine cw_seq fun K1 hK1 => ?_
  refine cw_region ?_
  refine ow_cons (st_box (l := [.slice r_l0.1.a l0.Stations.length r_l0.1.cap, .slice r_l0.2.1.a l0.Points.length r_l0.2.1.cap, .slice r_l0.2.2.1.a l0.Sections.length r_l0.2.2.1.cap, .slice r_l0.2.2.2.a l0.Links.length r_l0.2.2.2.cap]) (k := fun b1 => ?_))
  refine ow_cons (st_alloc rfl (k := fun b2 => ?_))
  refine ow_nil (hK1 _ _ ?_); clear hK1
  refine cw_cut (γ := Unit × (Nat × (SR (GoRep.R Str)) × (SR (GoRep.R Str)) × (SR (GoRep.R Section)) × (SR (GoRep.R Link)))) (env := fun (_, (bx_j1, rx_j1_0, rx_j1_1, rx_j1_2, rx_j1_3)) => [(1, .v (.int .i64 how0)), (2, .v (.int .i64 at0)), (3, .v (.int .i64 v0)), (8, .v (.pointer (some ⟨b2, 0, none⟩))), (9, .v (.pointer (some ⟨bx_j1, 0, none⟩)))]) (mem := fun (_, (bx_j1, rx_j1_0, rx_j1_1, rx_j1_2, rx_j1_3)) => [own b2 26 [.slice none 0 0, .slice none 0 0, .slice none 0 0, .slice none 0 0], trow 9 rx_j1_0 (([] : List Str) ++ l0.Stations), trow 9 rx_j1_1 (([] : List Str) ++ l0.Points), trow 57 rx_j1_2 (([] : List Section) ++ l0.Sections), trow 72 rx_j1_3 (([] : List Link) ++ l0.Links), own bx_j1 26 [.slice rx_j1_0.a ((([] : List Str) ++ l0.Stations).length) rx_j1_0.cap, .slice rx_j1_1.a ((([] : List Str) ++ l0.Points).length) rx_j1_1.cap, .slice rx_j1_2.a ((([] : List Section) ++ l0.Sections).length) rx_j1_2.cap, .slice rx_j1_3.a ((([] : List Link) ++ l0.Links).length) rx_j1_3.cap]]) (R := fun g => keep_Other_k1 l0 at0 how0 v0 g.1 = some y) ?_ ?_
  · intro KJ1 hJ1
    refine cw_region_any _ (List.Sublist.refl _) ?_
    refine aw_ev 0 rfl (ev_field_addr 0) ?_
    refine aw_ev 1 rfl (ev_load_own (b := b1)) ?_
    refine aw_ev 3 rfl (ev_field_addr 1) ?_
    refine aw_ev 4 rfl (ev_load_own (b := b1)) ?_
    refine aw_ev 6 rfl (ev_field_addr 2) ?_
    refine aw_ev 7 rfl (ev_load_own (b := b1)) ?_
    refine aw_ev 9 rfl (ev_field_addr 3) ?_
    refine aw_ev 10 rfl (ev_load_own (b := b1)) ?_
    refine aw_imp (fun w hm => hm.row_nil (α := Str) 9 (fun _ => ())) ?_
    obtain ⟨hb138, hM⟩ := chk_some hM
    refine aw_two 2 13 (⟨_, rfl, rfl, st_append (r := (⟨none, 0, (fun _ => ())⟩ : SR (GoRep.R Str)                               )) (r2 := r_l0.1) (by intro r'; repeat (first | exact Upd.head | apply Upd.tail)) (Kn.imm (α := List Str) (r := r_l0.1) (x := l0.Stations) (by repeat (first | exact Has.head | apply Has.tail))) (OkL.flat (fun _ _ _ _ => trivial)) (of_decide_eq_true hb138) (fun r139 => ⟨fun w hm => hm.sub (by repeat (first | exact List.Sublist.refl _ | apply List.Sublist.cons_cons | apply List.Sublist.cons)), ?_⟩)⟩) (⟨_, rfl, rfl, st_alloc rfl (k := fun b140 => ⟨fun w hm => hm.sub (by repeat (first | exact List.Sublist.refl _ | apply List.Sublist.cons_cons | apply List.Sublist.cons)), ?_⟩)⟩)
    ·
      refine aw_imp (fun w hm => hm.row_nil (α := Str) 9 (fun _ => ())) ?_
      obtain ⟨hb142, hM⟩ := chk_some hM
      refine aw_two 5 13 (⟨_, rfl, rfl, st_append (r := (⟨none, 0, (fun _ => ())⟩ : SR (GoRep.R Str)                                )) (r2 := r_l0.2.1) (by intro r'; repeat (first | exact Upd.head | apply Upd.tail)) (Kn.imm (α := List Str) (r := r_l0.2.1) (x := l0.Points) (by repeat (first | exact Has.head | apply Has.tail))) (OkL.flat (fun _ _ _ _ => trivial)) (of_decide_eq_true hb142) (fun r143 => ⟨fun w hm => hm.sub (by repeat (first | exact List.Sublist.refl _ | apply List.Sublist.cons_cons | apply List.Sublist.cons)), ?_⟩)⟩) (⟨_, rfl, rfl, st_alloc rfl (k := fun b144 => ⟨fun w hm => hm.sub (by repeat (first | exact List.Sublist.refl _ | apply List.Sublist.cons_cons | apply List.Sublist.cons)), ?_⟩)⟩)
      ·
        refine aw_imp (fun w hm => hm.row_nil (α := Section) 57 (fun _ => ())) ?_
        obtain ⟨hb146, hM⟩ := chk_some hM
        refine aw_two 8 13 (⟨_, rfl, rfl, st_append (r := (⟨none, 0, (fun _ => ())⟩ : SR (GoRep.R Section)                                 )) (r2 := r_l0.2.2.1) (by intro r'; repeat (first | exact Upd.head | apply Upd.tail)) (Kn.imm (α := List Section) (r := r_l0.2.2.1) (x := l0.Sections) (by repeat (first | exact Has.head | apply Has.tail))) (OkL.flat (fun _ _ _ _ => trivial)) (of_decide_eq_true hb146) (fun r147 => ⟨fun w hm => hm.sub (by repeat (first | exact List.Sublist.refl _ | apply List.Sublist.cons_cons | apply List.Sublist.cons)), ?_⟩)⟩) (⟨_, rfl, rfl, st_alloc rfl (k := fun b148 => ⟨fun w hm => hm.sub (by repeat (first | exact List.Sublist.refl _ | apply List.Sublist.cons_cons | apply List.Sublist.cons)), ?_⟩)⟩)
        ·
          refine aw_imp (fun w hm => hm.row_nil (α := Link) 72 (fun _ => ())) ?_
          obtain ⟨hb150, hM⟩ := chk_some hM
          refine aw_two 11 13 (⟨_, rfl, rfl, st_append (r := (⟨none, 0, (fun _ => ())⟩ : SR (GoRep.R Link)                                  )) (r2 := r_l0.2.2.2) (by intro r'; repeat (first | exact Upd.head | apply Upd.tail)) (Kn.imm (α := List Link) (r := r_l0.2.2.2) (x := l0.Links) (by repeat (first | exact Has.head | apply Has.tail))) (OkL.flat (fun _ _ _ _ => trivial)) (of_decide_eq_true hb150) (fun r151 => ⟨fun w hm => hm.sub (by repeat (first | exact List.Sublist.refl _ | apply List.Sublist.cons_cons | apply List.Sublist.cons)), ?_⟩)⟩) (⟨_, rfl, rfl, st_alloc rfl (k := fun b152 => ⟨fun w hm => hm.sub (by repeat (first | exact List.Sublist.refl _ | apply List.Sublist.cons_cons | apply List.Sublist.cons)), ?_⟩)⟩)
          ·
            refine aw_ev 12 rfl (ev_build [.slice r139.a ((([] : List Str) ++ l0.Stations).length) r139.cap, .slice r143.a ((([] : List Str) ++ l0.Points).length) r143.cap, .slice r147.a ((([] : List Section) ++ l0.Sections).length) r147.cap, .slice r151.a ((([] : List Link) ++ l0.Links).length) r151.cap]) ?_
            refine aw_one 13 rfl (st_alloc rfl (k := fun b153 => ⟨fun w hm => hm.sub (by repeat (first | exact List.Sublist.refl _ | apply List.Sublist.cons_cons | apply List.Sublist.cons)), ?_⟩))
            refine aw_one 14 rfl (st_store_all (b := b153) (vs := [.slice r139.a ((([] : List Str) ++ l0.Stations).length) r139.cap, .slice r143.a ((([] : List Str) ++ l0.Points).length) r143.cap, .slice r147.a ((([] : List Section) ++ l0.Sections).length) r147.cap, .slice r151.a ((([] : List Link) ++ l0.Links).length) r151.cap]) (k := ⟨fun w hm => hm.sub (by repeat (first | exact List.Sublist.refl _ | apply List.Sublist.cons_cons | apply List.Sublist.cons)), ?_⟩))
            refine aw_done (hJ1 ((), (b153, r139, r143, r147, r151)) _ _ hM ⟨rfl, rfl, rfl, rfl, rfl, trivial⟩ (fun w hm => hm.reord))
          ·
            refine aw_one 11 rfl (st_append (r := (⟨none, 0, (fun _ => ())⟩ : SR (GoRep.R Link)                                  )) (r2 := r_l0.2.2.2) (by intro r'; repeat (first | exact Upd.head | apply Upd.tail)) (Kn.imm (α := List Link) (r := r_l0.2.2.2) (x := l0.Links) (by repeat (first | exact Has.head | apply Has.tail))) (OkL.flat (fun _ _ _ _ => trivial)) (of_decide_eq_true hb150) (fun r154 => ⟨fun w hm => hm.sub (by repeat (first | exact List.Sublist.refl _ | apply List.Sublist.cons_cons | apply List.Sublist.cons)), ?_⟩))
            refine aw_ev 12 rfl (ev_build [.slice r139.a ((([] : List Str) ++ l0.Stations).length) r139.cap, .slice r143.a ((([] : List Str) ++ l0.Points).length) r143.cap, .slice r147.a ((([] : List Section) ++ l0.Sections).length) r147.cap, .slice r154.a ((([] : List Link) ++ l0.Links).length) r154.cap]) ?_
            refine aw_one 14 rfl (st_store_all (b := b152) (vs := [.slice r139.a ((([] : List Str) ++ l0.Stations).length) r139.cap, .slice r143.a ((([] : List Str) ++ l0.Points).length) r143.cap, .slice r147.a ((([] : List Section) ++ l0.Sections).length) r147.cap, .slice r154.a ((([] : List Link) ++ l0.Links).length) r154.cap]) (k := ⟨fun w hm => hm.sub (by repeat (first | exact List.Sublist.refl _ | apply List.Sublist.cons_cons | apply List.Sublist.cons)), ?_⟩))
            refine aw_done (hJ1 ((), (b152, r139, r143, r147, r154)) _ _ hM ⟨rfl, rfl, rfl, rfl, rfl, trivial⟩ (fun w hm => hm.reord))
        ·
          refine aw_one 8 rfl (st_append (r := (⟨none, 0, (fun _ => ())⟩ : SR (GoRep.R Section)                                 )) (r2 := r_l0.2.2.1) (by intro r'; repeat (first | exact Upd.head | apply Upd.tail)) (Kn.imm (α := List Section) (r := r_l0.2.2.1) (x := l0.Sections) (by repeat (first | exact Has.head | apply Has.tail))) (OkL.flat (fun _ _ _ _ => trivial)) (of_decide_eq_true hb146) (fun r155 => ⟨fun w hm => hm.sub (by repeat (first | exact List.Sublist.refl _ | apply List.Sublist.cons_cons | apply List.Sublist.cons)), ?_⟩))
          refine aw_imp (fun w hm => hm.row_nil (α := Link) 72 (fun _ => ())) ?_
          obtain ⟨hb158, hM⟩ := chk_some hM
          refine aw_one 11 rfl (st_append (r := (⟨none, 0, (fun _ => ())⟩ : SR (GoRep.R Link)                                   )) (r2 := r_l0.2.2.2) (by intro r'; repeat (first | exact Upd.head | apply Upd.tail)) (Kn.imm (α := List Link) (r := r_l0.2.2.2) (x := l0.Links) (by repeat (first | exact Has.head | apply Has.tail))) (OkL.flat (fun _ _ _ _ => trivial)) (of_decide_eq_true hb158) (fun r157 => ⟨fun w hm => hm.sub (by repeat (first | exact List.Sublist.refl _ | apply List.Sublist.cons_cons | apply List.Sublist.cons)), ?_⟩))
          refine aw_ev 12 rfl (ev_build [.slice r139.a ((([] : List Str) ++ l0.Stations).length) r139.cap, .slice r143.a ((([] : List Str) ++ l0.Points).length) r143.cap, .slice r155.a ((([] : List Section) ++ l0.Sections).length) r155.cap, .slice r157.a ((([] : List Link) ++ l0.Links).length) r157.cap]) ?_
          refine aw_one 14 rfl (st_store_all (b := b148) (vs := [.slice r139.a ((([] : List Str) ++ l0.Stations).length) r139.cap, .slice r143.a ((([] : List Str) ++ l0.Points).length) r143.cap, .slice r155.a ((([] : List Section) ++ l0.Sections).length) r155.cap, .slice r157.a ((([] : List Link) ++ l0.Links).length) r157.cap]) (k := ⟨fun w hm => hm.sub (by repeat (first | exact List.Sublist.refl _ | apply List.Sublist.cons_cons | apply List.Sublist.cons)), ?_⟩))
          refine aw_done (hJ1 ((), (b148, r139, r143, r155, r157)) _ _ hM ⟨rfl, rfl, rfl, rfl, rfl, trivial⟩ (fun w hm => hm.reord))
      ·
        refine aw_one 5 rfl (st_append (r := (⟨none, 0, (fun _ => ())⟩ : SR (GoRep.R Str)                                )) (r2 := r_l0.2.1) (by intro r'; repeat (first | exact Upd.head | apply Upd.tail)) (Kn.imm (α := List Str) (r := r_l0.2.1) (x := l0.Points) (by repeat (first | exact Has.head | apply Has.tail))) (OkL.flat (fun _ _ _ _ => trivial)) (of_decide_eq_true hb142) (fun r159 => ⟨fun w hm => hm.sub (by repeat (first | exact List.Sublist.refl _ | apply List.Sublist.cons_cons | apply List.Sublist.cons)), ?_⟩))
        refine aw_imp (fun w hm => hm.row_nil (α := Section) 57 (fun _ => ())) ?_
        obtain ⟨hb162, hM⟩ := chk_some hM
        refine aw_one 8 rfl (st_append (r := (⟨none, 0, (fun _ => ())⟩ : SR (GoRep.R Section)                                    )) (r2 := r_l0.2.2.1) (by intro r'; repeat (first | exact Upd.head | apply Upd.tail)) (Kn.imm (α := List Section) (r := r_l0.2.2.1) (x := l0.Sections) (by repeat (first | exact Has.head | apply Has.tail))) (OkL.flat (fun _ _ _ _ => trivial)) (of_decide_eq_true hb162) (fun r161 => ⟨fun w hm => hm.sub (by repeat (first | exact List.Sublist.refl _ | apply List.Sublist.cons_cons | apply List.Sublist.cons)), ?_⟩))
        refine aw_imp (fun w hm => hm.row_nil (α := Link) 72 (fun _ => ())) ?_
        obtain ⟨hb165, hM⟩ := chk_some hM
        refine aw_one 11 rfl (st_append (r := (⟨none, 0, (fun _ => ())⟩ : SR (GoRep.R Link)                                     )) (r2 := r_l0.2.2.2) (by intro r'; repeat (first | exact Upd.head | apply Upd.tail)) (Kn.imm (α := List Link) (r := r_l0.2.2.2) (x := l0.Links) (by repeat (first | exact Has.head | apply Has.tail))) (OkL.flat (fun _ _ _ _ => trivial)) (of_decide_eq_true hb165) (fun r164 => ⟨fun w hm => hm.sub (by repeat (first | exact List.Sublist.refl _ | apply List.Sublist.cons_cons | apply List.Sublist.cons)), ?_⟩))
        refine aw_ev 12 rfl (ev_build [.slice r139.a ((([] : List Str) ++ l0.Stations).length) r139.cap, .slice r159.a ((([] : List Str) ++ l0.Points).length) r159.cap, .slice r161.a ((([] : List Section) ++ l0.Sections).length) r161.cap, .slice r164.a ((([] : List Link) ++ l0.Links).length) r164.cap]) ?_
        refine aw_one 14 rfl (st_store_all (b := b144) (vs := [.slice r139.a ((([] : List Str) ++ l0.Stations).length) r139.cap, .slice r159.a ((([] : List Str) ++ l0.Points).length) r159.cap, .slice r161.a ((([] : List Section) ++ l0.Sections).length) r161.cap, .slice r164.a ((([] : List Link) ++ l0.Links).length) r164.cap]) (k := ⟨fun w hm => hm.sub (by repeat (first | exact List.Sublist.refl _ | apply List.Sublist.cons_cons | apply List.Sublist.cons)), ?_⟩))
        refine aw_done (hJ1 ((), (b144, r139, r159, r161, r164)) _ _ hM ⟨rfl, rfl, rfl, rfl, rfl, trivial⟩ (fun w hm => hm.reord))
    ·
      refine aw_one 2 rfl (st_append (r := (⟨none, 0, (fun _ => ())⟩ : SR (GoRep.R Str)                               )) (r2 := r_l0.1) (by intro r'; repeat (first | exact Upd.head | apply Upd.tail)) (Kn.imm (α := List Str) (r := r_l0.1) (x := l0.Stations) (by repeat (first | exact Has.head | apply Has.tail))) (OkL.flat (fun _ _ _ _ => trivial)) (of_decide_eq_true hb138) (fun r166 => ⟨fun w hm => hm.sub (by repeat (first | exact List.Sublist.refl _ | apply List.Sublist.cons_cons | apply List.Sublist.cons)), ?_⟩))
      refine aw_imp (fun w hm => hm.row_nil (α := Str) 9 (fun _ => ())) ?_
      obtain ⟨hb169, hM⟩ := chk_some hM
      refine aw_one 5 rfl (st_append (r := (⟨none, 0, (fun _ => ())⟩ : SR (GoRep.R Str)                                      )) (r2 := r_l0.2.1) (by intro r'; repeat (first | exact Upd.head | apply Upd.tail)) (Kn.imm (α := List Str) (r := r_l0.2.1) (x := l0.Points) (by repeat (first | exact Has.head | apply Has.tail))) (OkL.flat (fun _ _ _ _ => trivial)) (of_decide_eq_true hb169) (fun r168 => ⟨fun w hm => hm.sub (by repeat (first | exact List.Sublist.refl _ | apply List.Sublist.cons_cons | apply List.Sublist.cons)), ?_⟩))
      refine aw_imp (fun w hm => hm.row_nil (α := Section) 57 (fun _ => ())) ?_
      obtain ⟨hb172, hM⟩ := chk_some hM
      refine aw_one 8 rfl (st_append (r := (⟨none, 0, (fun _ => ())⟩ : SR (GoRep.R Section)                                       )) (r2 := r_l0.2.2.1) (by intro r'; repeat (first | exact Upd.head | apply Upd.tail)) (Kn.imm (α := List Section) (r := r_l0.2.2.1) (x := l0.Sections) (by repeat (first | exact Has.head | apply Has.tail))) (OkL.flat (fun _ _ _ _ => trivial)) (of_decide_eq_true hb172) (fun r171 => ⟨fun w hm => hm.sub (by repeat (first | exact List.Sublist.refl _ | apply List.Sublist.cons_cons | apply List.Sublist.cons)), ?_⟩))
      refine aw_imp (fun w hm => hm.row_nil (α := Link) 72 (fun _ => ())) ?_
      obtain ⟨hb175, hM⟩ := chk_some hM
      refine aw_one 11 rfl (st_append (r := (⟨none, 0, (fun _ => ())⟩ : SR (GoRep.R Link)                                        )) (r2 := r_l0.2.2.2) (by intro r'; repeat (first | exact Upd.head | apply Upd.tail)) (Kn.imm (α := List Link) (r := r_l0.2.2.2) (x := l0.Links) (by repeat (first | exact Has.head | apply Has.tail))) (OkL.flat (fun _ _ _ _ => trivial)) (of_decide_eq_true hb175) (fun r174 => ⟨fun w hm => hm.sub (by repeat (first | exact List.Sublist.refl _ | apply List.Sublist.cons_cons | apply List.Sublist.cons)), ?_⟩))
      refine aw_ev 12 rfl (ev_build [.slice r166.a ((([] : List Str) ++ l0.Stations).length) r166.cap, .slice r168.a ((([] : List Str) ++ l0.Points).length) r168.cap, .slice r171.a ((([] : List Section) ++ l0.Sections).length) r171.cap, .slice r174.a ((([] : List Link) ++ l0.Links).length) r174.cap]) ?_
      refine aw_one 14 rfl (st_store_all (b := b140) (vs := [.slice r166.a ((([] : List Str) ++ l0.Stations).length) r166.cap, .slice r168.a ((([] : List Str) ++ l0.Points).length) r168.cap, .slice r171.a ((([] : List Section) ++ l0.Sections).length) r171.cap, .slice r174.a ((([] : List Link) ++ l0.Links).length) r174.cap]) (k := ⟨fun w hm => hm.sub (by repeat (first | exact List.Sublist.refl _ | apply List.Sublist.cons_cons | apply List.Sublist.cons)), ?_⟩))
      refine aw_done (hJ1 ((), (b140, r166, r168, r171, r174)) _ _ hM ⟨rfl, rfl, rfl, rfl, rfl, trivial⟩ (fun w hm => hm.reord))
  ·
    clear hM
    intro g hM
    obtain ⟨⟨⟩, ⟨bx_j1, rx_j1_0, rx_j1_1, rx_j1_2, rx_j1_3⟩⟩ := g
    dsimp only at hM ⊢
    dsimp only [keep_Other_k1] at hM
    refine cw_seq fun K2 hK2 => ?_
    refine cw_seq fun K3 hK3 => ?_
    refine cw_region ?_
    refine ow_ev (ev_field_addr 2) ?_
    refine ow_ev (ev_load_own (b := bx_j1)) ?_
    refine ow_ev ev_len ?_
    refine ow_ev ev_eql ?_
    refine ow_nil (hK3 _ _ ?_); clear hK3
    refine cw_cond rfl (fun hc3 => ?_) (fun hc3 => ?_)
    ·
      replace hM := (ite_t hc3).symm.trans hM
      refine cw_seq fun K4 hK4 => ?_
      refine cw_region ?_
      refine ow_ev (ev_load_all (b := bx_j1)) ?_
      refine ow_cons (st_store_all (b := b2) (vs := [.slice rx_j1_0.a ((([] : List Str) ++ l0.Stations).length) rx_j1_0.cap, .slice rx_j1_1.a ((([] : List Str) ++ l0.Points).length) rx_j1_1.cap, .slice rx_j1_2.a ((([] : List Section) ++ l0.Sections).length) rx_j1_2.cap, .slice rx_j1_3.a ((([] : List Link) ++ l0.Links).length) rx_j1_3.cap]) (k := ?_))
      refine ow_nil (hK4 _ _ ?_); clear hK4
      obtain rfl := some_inj hM
      refine cw_ret (kw_retc1 (fun w hm => post_of (rx_j1_0, rx_j1_1, rx_j1_2, rx_j1_3) hm rfl))
    ·
      replace hM := (ite_f hc3).symm.trans hM
      refine cw_skip (hK2 _ _ ?_); clear hK2
      refine cw_seq fun K5 hK5 => ?_
      refine cw_region_any _ (List.Sublist.refl _) ?_
      refine aw_ev 0 rfl (ev_field_addr 2) ?_
      refine aw_ev 1 rfl (ev_load_own (b := bx_j1)) ?_
      refine aw_ev 2 rfl ev_move ?_
      refine aw_ev 3 rfl (ev_field_addr 2) ?_
      refine aw_ev 4 rfl (ev_load_own (b := bx_j1)) ?_
      refine aw_ev 5 rfl ev_len ?_
      obtain ⟨y4, hy5, hM⟩ := bind_some hM
      refine aw_one 6 rfl (st_callv (fun w hm => let ⟨S, hs⟩ := hm; keep_Pick_spec _ w at0 ((([] : List Section) ++ l0.Sections).length : Int) y4 hy5 (lend_lt hs) ) ⟨fun w hm => hm.sub (by repeat (first | exact List.Sublist.refl _ | apply List.Sublist.cons_cons | apply List.Sublist.cons)), ?_⟩)
      obtain ⟨x6, hx7, hM⟩ := bind_some hM
      refine aw_ev 7 rfl (ev_idx (xs := (([] : List Section) ++ l0.Sections)) 5 (Kn.trow (e := 57) (r := rx_j1_2) (by repeat (first | exact Has.head | apply Has.tail))) (fun hg => let h := idx_some hx7; ⟨h.1, h.2.1⟩)) ?_
      refine aw_ev 8 rfl ev_assign ?_
      refine aw_done (hK5 _ _ ?_); clear hK5
      refine cw_cut (γ := ((List Str) × (List Str) × (List Section) × (List Link)) × ((SR (GoRep.R Str)) × (SR (GoRep.R Str)) × (SR (GoRep.R Section)) × (SR (GoRep.R Link)))) (env := fun ((lx_j2_0, lx_j2_1, lx_j2_2, lx_j2_3), (rx_j2_0, rx_j2_1, rx_j2_2, rx_j2_3)) => [(8, .v (.pointer (some ⟨b2, 0, none⟩))), (9, .v (.pointer (some ⟨bx_j1, 0, none⟩)))]) (mem := fun ((lx_j2_0, lx_j2_1, lx_j2_2, lx_j2_3), (rx_j2_0, rx_j2_1, rx_j2_2, rx_j2_3)) => [own b2 26 [.slice none 0 0, .slice none 0 0, .slice none 0 0, .slice none 0 0], trow 9 rx_j2_0 lx_j2_0, trow 9 rx_j2_1 lx_j2_1, trow 57 rx_j2_2 lx_j2_2, trow 72 rx_j2_3 lx_j2_3, own bx_j1 26 [.slice rx_j2_0.a lx_j2_0.length rx_j2_0.cap, .slice rx_j2_1.a lx_j2_1.length rx_j2_1.cap, .slice rx_j2_2.a lx_j2_2.length rx_j2_2.cap, .slice rx_j2_3.a lx_j2_3.length rx_j2_3.cap]]) (R := fun g => keep_Other_k2 g.1 = some y) ?_ ?_
      · intro KJ2 hJ2
        refine cw_seq fun K7 hK7 => ?_
        refine cw_region ?_
        refine ow_ev ev_move ?_
        obtain ⟨y8, hy9, hM⟩ := bind_some hM
        refine ow_cons (st_callv (fun w hm => let ⟨S, hs⟩ := hm; keep_Pick_spec _ w how0 12 y8 hy9 (lend_lt hs) ) ?_)
        refine ow_nil (hK7 _ _ ?_); clear hK7
        refine cw_block ?_
        refine cw_seq fun K8 hK8 => ?_
        refine cw_region ?_
        refine ow_ev ev_eql ?_
        refine ow_ev ev_assign ?_
        refine ow_nil (hK8 _ _ ?_); clear hK8
        refine cw_cond rfl (fun hc10 => ?_) (fun hc10 => ?_)
        ·
          replace hM := (ite_t hc10).symm.trans hM
          refine cw_region ?_
          refine ow_ev ev_move ?_
          refine ow_ev ev_move ?_
          obtain ⟨y11, hy12, hM⟩ := bind_some hM
          refine ow_cons (st_callv (fun w hm => let ⟨S, hs⟩ := hm; keep_Pick_spec _ w v0 403 y11 hy12 (lend_lt hs) ) ?_)
          obtain ⟨hI13, hM⟩ := chk_some hM
          refine ow_ev (ev_sub (hr := fun hg => i64b_I64 hI13)) ?_
          refine ow_ev ev_nilcheck ?_
          refine ow_ev (ev_field_addr 1) ?_
          refine ow_cons (st_set (r := rx_j1_2) (i := y4) (xs := (([] : List Section) ++ l0.Sections)) (u := x6) (vs := [.int .i64 (y11 - 1)]) 1 (Section.mk x6.Name (y11 - 1) x6.Limit x6.Grade x6.Station) hx7 rfl (fun _ _ h => h) (by repeat (first | exact Upd.head | apply Upd.tail)) ?_)
          have hx14 := idx_set_same (u := (Section.mk x6.Name (y11 - 1) x6.Limit x6.Grade x6.Station)) hx7
          refine ow_nil (hJ2 (((([] : List Str) ++ l0.Stations), (([] : List Str) ++ l0.Points), ((([] : List Section) ++ l0.Sections).set y4.toNat (Section.mk x6.Name (y11 - 1) x6.Limit x6.Grade x6.Station)), (([] : List Link) ++ l0.Links)), (rx_j1_0, rx_j1_1, rx_j1_2, rx_j1_3)) _ _ hM ⟨rfl, rfl, trivial⟩ (fun w hm => by simp only [List.length_set]; exact hm.reord))
        ·
          replace hM := (ite_f hc10).symm.trans hM
          refine cw_seq fun K9 hK9 => ?_
          refine cw_region ?_
          refine ow_ev ev_eql ?_
          refine ow_ev ev_assign ?_
          refine ow_nil (hK9 _ _ ?_); clear hK9
          refine cw_cond rfl (fun hc15 => ?_) (fun hc15 => ?_)
          ·
            replace hM := (ite_t hc15).symm.trans hM
            refine cw_region ?_
            refine ow_ev ev_move ?_
            refine ow_ev ev_move ?_
            obtain ⟨y16, hy17, hM⟩ := bind_some hM
            refine ow_cons (st_callv (fun w hm => let ⟨S, hs⟩ := hm; keep_Pick_spec _ w v0 102000 y16 hy17 (lend_lt hs) ) ?_)
            refine ow_ev ev_nilcheck ?_
            refine ow_ev (ev_field_addr 2) ?_
            refine ow_cons (st_set (r := rx_j1_2) (i := y4) (xs := (([] : List Section) ++ l0.Sections)) (u := x6) (vs := [.int .i64 y16]) 2 (Section.mk x6.Name x6.Length y16 x6.Grade x6.Station) hx7 rfl (fun _ _ h => h) (by repeat (first | exact Upd.head | apply Upd.tail)) ?_)
            have hx18 := idx_set_same (u := (Section.mk x6.Name x6.Length y16 x6.Grade x6.Station)) hx7
            refine ow_nil (hJ2 (((([] : List Str) ++ l0.Stations), (([] : List Str) ++ l0.Points), ((([] : List Section) ++ l0.Sections).set y4.toNat (Section.mk x6.Name x6.Length y16 x6.Grade x6.Station)), (([] : List Link) ++ l0.Links)), (rx_j1_0, rx_j1_1, rx_j1_2, rx_j1_3)) _ _ hM ⟨rfl, rfl, trivial⟩ (fun w hm => by simp only [List.length_set]; exact hm.reord))
          ·
            replace hM := (ite_f hc15).symm.trans hM
            refine cw_seq fun K10 hK10 => ?_
            refine cw_region ?_
            refine ow_ev ev_eql ?_
            refine ow_ev ev_assign ?_
            refine ow_nil (hK10 _ _ ?_); clear hK10
            refine cw_cond rfl (fun hc19 => ?_) (fun hc19 => ?_)
            ·
              replace hM := (ite_t hc19).symm.trans hM
              refine cw_region ?_
              refine ow_ev ev_move ?_
              refine ow_ev ev_move ?_
              obtain ⟨y20, hy21, hM⟩ := bind_some hM
              refine ow_cons (st_callv (fun w hm => let ⟨S, hs⟩ := hm; keep_Pick_spec _ w v0 85 y20 hy21 (lend_lt hs) ) ?_)
              obtain ⟨hI22, hM⟩ := chk_some hM
              refine ow_ev (ev_sub (hr := fun hg => i64b_I64 hI22)) ?_
              obtain ⟨hI23, hM⟩ := chk_some hM
              refine ow_ev (ev_sub (hr := fun hg => i64b_I64 hI23)) ?_
              refine ow_ev ev_nilcheck ?_
              refine ow_ev (ev_field_addr 3) ?_
              refine ow_cons (st_set (r := rx_j1_2) (i := y4) (xs := (([] : List Section) ++ l0.Sections)) (u := x6) (vs := [.int .i64 ((y20 - 40) - 2)]) 3 (Section.mk x6.Name x6.Length x6.Limit ((y20 - 40) - 2) x6.Station) hx7 rfl (fun _ _ h => h) (by repeat (first | exact Upd.head | apply Upd.tail)) ?_)
              have hx24 := idx_set_same (u := (Section.mk x6.Name x6.Length x6.Limit ((y20 - 40) - 2) x6.Station)) hx7
              refine ow_nil (hJ2 (((([] : List Str) ++ l0.Stations), (([] : List Str) ++ l0.Points), ((([] : List Section) ++ l0.Sections).set y4.toNat (Section.mk x6.Name x6.Length x6.Limit ((y20 - 40) - 2) x6.Station)), (([] : List Link) ++ l0.Links)), (rx_j1_0, rx_j1_1, rx_j1_2, rx_j1_3)) _ _ hM ⟨rfl, rfl, trivial⟩ (fun w hm => by simp only [List.length_set]; exact hm.reord))
            ·
              replace hM := (ite_f hc19).symm.trans hM
              refine cw_seq fun K11 hK11 => ?_
              refine cw_region ?_
              refine ow_ev ev_eql ?_
              refine ow_ev ev_assign ?_
              refine ow_nil (hK11 _ _ ?_); clear hK11
              refine cw_cond rfl (fun hc25 => ?_) (fun hc25 => ?_)
              ·
                replace hM := (ite_t hc25).symm.trans hM
                refine cw_region ?_
                refine ow_ev ev_move ?_
                refine ow_ev ev_move ?_
                refine ow_ev (ev_field_addr 0) ?_
                refine ow_ev (ev_load_own (b := bx_j1)) ?_
                refine ow_ev ev_len ?_
                obtain ⟨hI26, hM⟩ := chk_some hM
                refine ow_ev (ev_add (hr := fun hg => i64b_I64 hI26)) ?_
                obtain ⟨y27, hy28, hM⟩ := bind_some hM
                refine ow_cons (st_callv (fun w hm => let ⟨S, hs⟩ := hm; keep_Pick_spec _ w v0 (((([] : List Str) ++ l0.Stations).length : Int) + 3) y27 hy28 (lend_lt hs) ) ?_)
                obtain ⟨hI29, hM⟩ := chk_some hM
                refine ow_ev (ev_sub (hr := fun hg => i64b_I64 hI29)) ?_
                refine ow_ev ev_nilcheck ?_
                refine ow_ev (ev_field_addr 4) ?_
                refine ow_cons (st_set (r := rx_j1_2) (i := y4) (xs := (([] : List Section) ++ l0.Sections)) (u := x6) (vs := [.int .i64 (y27 - 2)]) 4 (Section.mk x6.Name x6.Length x6.Limit x6.Grade (y27 - 2)) hx7 rfl (fun _ _ h => h) (by repeat (first | exact Upd.head | apply Upd.tail)) ?_)
                have hx30 := idx_set_same (u := (Section.mk x6.Name x6.Length x6.Limit x6.Grade (y27 - 2))) hx7
                refine ow_nil (hJ2 (((([] : List Str) ++ l0.Stations), (([] : List Str) ++ l0.Points), ((([] : List Section) ++ l0.Sections).set y4.toNat (Section.mk x6.Name x6.Length x6.Limit x6.Grade (y27 - 2))), (([] : List Link) ++ l0.Links)), (rx_j1_0, rx_j1_1, rx_j1_2, rx_j1_3)) _ _ hM ⟨rfl, rfl, trivial⟩ (fun w hm => by simp only [List.length_set]; exact hm.reord))
              ·
                replace hM := (ite_f hc25).symm.trans hM
                refine cw_seq fun K12 hK12 => ?_
                refine cw_region ?_
                refine ow_ev ev_eql ?_
                refine ow_ev ev_assign ?_
                refine ow_nil (hK12 _ _ ?_); clear hK12
                refine cw_cond rfl (fun hc31 => ?_) (fun hc31 => ?_)
                ·
                  replace hM := (ite_t hc31).symm.trans hM
                  refine cw_region ?_
                  refine ow_ev ev_move ?_
                  refine ow_cons (st_bslice (α := Str) 9 (fun _ => ()) ([(⟨[]⟩ : Str), (⟨[88]⟩ : Str), (⟨[84, 48, 49]⟩ : Str), (⟨[49, 97]⟩ : Str), (⟨[97, 98, 99, 100, 101, 102, 103, 104, 105, 106, 107, 108, 109]⟩ : Str)] : List Str) (OkL.flat (fun _ _ _ _ => trivial)) (fun r32 => ?_))
                  refine ow_ev ev_move ?_
                  obtain ⟨y33, hy34, hM⟩ := bind_some hM
                  refine ow_cons (st_callv (fun w hm => let ⟨S, hs⟩ := hm; keep_Pick_spec _ w v0 5 y33 hy34 (lend_lt hs) ) ?_)
                  obtain ⟨x35, hx36, hM⟩ := bind_some hM
                  refine ow_ev (ev_idx (xs := ([(⟨[]⟩ : Str), (⟨[88]⟩ : Str), (⟨[84, 48, 49]⟩ : Str), (⟨[49, 97]⟩ : Str), (⟨[97, 98, 99, 100, 101, 102, 103, 104, 105, 106, 107, 108, 109]⟩ : Str)] : List Str)) 1 (Kn.trow (e := 9) (r := r32) (by repeat (first | exact Has.head | apply Has.tail))) (fun hg => let h := idx_some hx36; ⟨h.1, h.2.1⟩)) ?_
                  refine ow_ev (ev_ld (i := y33) (xs := ([(⟨[]⟩ : Str), (⟨[88]⟩ : Str), (⟨[84, 48, 49]⟩ : Str), (⟨[49, 97]⟩ : Str), (⟨[97, 98, 99, 100, 101, 102, 103, 104, 105, 106, 107, 108, 109]⟩ : Str)] : List Str)) (y := x35) 0 (Kn.trow (e := 9) (r := r32) (by repeat (first | exact Has.head | apply Has.tail))) (fun _ => hx36)) ?_
                  refine ow_ev ev_nilcheck ?_
                  refine ow_ev (ev_field_addr 0) ?_
                  refine ow_cons (st_set (r := rx_j1_2) (i := y4) (xs := (([] : List Section) ++ l0.Sections)) (u := x6) (vs := [.string x35.ba]) 0 (Section.mk x35 x6.Length x6.Limit x6.Grade x6.Station) hx7 rfl (fun _ _ h => h) (by repeat (first | exact Upd.head | apply Upd.tail)) ?_)
                  have hx37 := idx_set_same (u := (Section.mk x35 x6.Length x6.Limit x6.Grade x6.Station)) hx7
                  refine ow_nil (hJ2 (((([] : List Str) ++ l0.Stations), (([] : List Str) ++ l0.Points), ((([] : List Section) ++ l0.Sections).set y4.toNat (Section.mk x35 x6.Length x6.Limit x6.Grade x6.Station)), (([] : List Link) ++ l0.Links)), (rx_j1_0, rx_j1_1, rx_j1_2, rx_j1_3)) _ _ hM ⟨rfl, rfl, trivial⟩ (fun w hm => by simp only [List.length_set]; exact hm.reord))
                ·
                  replace hM := (ite_f hc31).symm.trans hM
                  refine cw_seq fun K13 hK13 => ?_
                  refine cw_region ?_
                  refine ow_ev ev_eql ?_
                  refine ow_ev ev_assign ?_
                  refine ow_nil (hK13 _ _ ?_); clear hK13
                  refine cw_cond rfl (fun hc38 => ?_) (fun hc38 => ?_)
                  ·
                    replace hM := (ite_t hc38).symm.trans hM
                    refine cw_region_z [own b2 26 [.slice none 0 0, .slice none 0 0, .slice none 0 0, .slice none 0 0], trow 9 rx_j1_1 (([] : List Str) ++ l0.Points), trow 57 rx_j1_2 (([] : List Section) ++ l0.Sections), trow 72 rx_j1_3 (([] : List Link) ++ l0.Links), own bx_j1 26 [.slice rx_j1_0.a ((([] : List Str) ++ l0.Stations).length) rx_j1_0.cap, .slice rx_j1_1.a ((([] : List Str) ++ l0.Points).length) rx_j1_1.cap, .slice rx_j1_2.a ((([] : List Section) ++ l0.Sections).length) rx_j1_2.cap, .slice rx_j1_3.a ((([] : List Link) ++ l0.Links).length) rx_j1_3.cap]] 10 ?_
                    refine az_ev 0 rfl (ev_field_addr 0) ?_
                    refine az_ev 1 rfl (ev_load_own (b := bx_j1)) ?_
                    refine az_ev 3 rfl ev_move ?_
                    obtain ⟨y39, hy40, hM⟩ := bind_some hM
                    refine az_two 2 4 (⟨_, rfl, rfl, st_bslice (α := Str) 9 (fun _ => ()) ([(⟨[83, 48]⟩ : Str), (⟨[83, 95, 57]⟩ : Str), (⟨[]⟩ : Str), (⟨[97, 45, 98]⟩ : Str)] : List Str) (OkL.flat (fun _ _ _ _ => trivial)) (fun r41 => ⟨fun w hm => hm.sub (by repeat (first | exact List.Sublist.refl _ | apply List.Sublist.cons_cons | apply List.Sublist.cons)), ?_⟩)⟩) (⟨_, rfl, rfl, st_callv (fun w hm => let ⟨S, hs⟩ := hm; keep_Pick_spec _ w v0 4 y39 hy40 (lend_lt hs) ) ⟨fun w hm => hm.sub (by repeat (first | exact List.Sublist.refl _ | apply List.Sublist.cons_cons | apply List.Sublist.cons)), ?_⟩⟩)
                    ·
                      refine az_one 4 rfl (st_callv (fun w hm => let ⟨S, hs⟩ := hm; keep_Pick_spec _ w v0 4 y39 hy40 (lend_lt hs) ) ⟨fun w hm => hm.sub (by repeat (first | exact List.Sublist.refl _ | apply List.Sublist.cons_cons | apply List.Sublist.cons)), ?_⟩)
                      obtain ⟨x42, hx43, hM⟩ := bind_some hM
                      refine az_one 5 rfl (st_ev (ev_idx (xs := ([(⟨[83, 48]⟩ : Str), (⟨[83, 95, 57]⟩ : Str), (⟨[]⟩ : Str), (⟨[97, 45, 98]⟩ : Str)] : List Str)) 1 (Kn.trow (e := 9) (r := r41) (by repeat (first | exact Has.head | apply Has.tail))) (fun hg => let h := idx_some hx43; ⟨h.1, h.2.1⟩)) ⟨fun w hm => hm.sub (by repeat (first | exact List.Sublist.refl _ | apply List.Sublist.cons_cons | apply List.Sublist.cons)), ?_⟩)
                      refine az_one 6 rfl (st_ev (ev_ld (i := y39) (xs := ([(⟨[83, 48]⟩ : Str), (⟨[83, 95, 57]⟩ : Str), (⟨[]⟩ : Str), (⟨[97, 45, 98]⟩ : Str)] : List Str)) (y := x42) 0 (Kn.trow (e := 9) (r := r41) (by repeat (first | exact Has.head | apply Has.tail))) (fun _ => hx43)) ⟨fun w hm => hm.sub (by repeat (first | exact List.Sublist.refl _ | apply List.Sublist.cons_cons | apply List.Sublist.cons)), ?_⟩)
                      refine az_one 7 rfl (st_bslice (α := Str) 9 (fun _ => ()) ([x42] : List Str) (OkL.flat (fun _ _ _ _ => trivial)) (fun r44 => ⟨fun w hm => hm.sub (by repeat (first | exact List.Sublist.refl _ | apply List.Sublist.cons_cons | apply List.Sublist.cons)), ?_⟩))
                      obtain ⟨hb46, hM⟩ := chk_some hM
                      refine az_one 8 rfl (st_append (r := rx_j1_0) (r2 := r44) (by intro r'; repeat (first | exact Upd.head | apply Upd.tail)) (Kn.trow (e := 9) (r := r44) (by repeat (first | exact Has.head | apply Has.tail))) (OkL.flat (fun _ _ _ _ => trivial)) (of_decide_eq_true hb46) (fun r45 => ⟨fun w hm => hm.sub (by repeat (first | exact List.Sublist.refl _ | apply List.Sublist.cons_cons | apply List.Sublist.cons)), ?_⟩))
                      refine az_ev 9 rfl (ev_field_addr 0) ?_
                      refine az_last rfl (st_store_own (b := bx_j1) (l' := [.slice r45.a (((([] : List Str) ++ l0.Stations) ++ ([x42] : List Str)).length) r45.cap, .slice rx_j1_1.a ((([] : List Str) ++ l0.Points).length) rx_j1_1.cap, .slice rx_j1_2.a ((([] : List Section) ++ l0.Sections).length) rx_j1_2.cap, .slice rx_j1_3.a ((([] : List Link) ++ l0.Links).length) rx_j1_3.cap]) (k := ?_))
                      refine az_done (hJ2 ((((([] : List Str) ++ l0.Stations) ++ ([x42] : List Str)), (([] : List Str) ++ l0.Points), (([] : List Section) ++ l0.Sections), (([] : List Link) ++ l0.Links)), (r45, rx_j1_1, rx_j1_2, rx_j1_3)) _ _ hM ⟨rfl, rfl, trivial⟩ (fun w hm => hm.reord))
                    ·
                      refine az_one 2 rfl (st_bslice (α := Str) 9 (fun _ => ()) ([(⟨[83, 48]⟩ : Str), (⟨[83, 95, 57]⟩ : Str), (⟨[]⟩ : Str), (⟨[97, 45, 98]⟩ : Str)] : List Str) (OkL.flat (fun _ _ _ _ => trivial)) (fun r47 => ⟨fun w hm => hm.sub (by repeat (first | exact List.Sublist.refl _ | apply List.Sublist.cons_cons | apply List.Sublist.cons)), ?_⟩))
                      obtain ⟨x48, hx49, hM⟩ := bind_some hM
                      refine az_one 5 rfl (st_ev (ev_idx (xs := ([(⟨[83, 48]⟩ : Str), (⟨[83, 95, 57]⟩ : Str), (⟨[]⟩ : Str), (⟨[97, 45, 98]⟩ : Str)] : List Str)) 1 (Kn.trow (e := 9) (r := r47) (by repeat (first | exact Has.head | apply Has.tail))) (fun hg => let h := idx_some hx49; ⟨h.1, h.2.1⟩)) ⟨fun w hm => hm.sub (by repeat (first | exact List.Sublist.refl _ | apply List.Sublist.cons_cons | apply List.Sublist.cons)), ?_⟩)
                      refine az_one 6 rfl (st_ev (ev_ld (i := y39) (xs := ([(⟨[83, 48]⟩ : Str), (⟨[83, 95, 57]⟩ : Str), (⟨[]⟩ : Str), (⟨[97, 45, 98]⟩ : Str)] : List Str)) (y := x48) 0 (Kn.trow (e := 9) (r := r47) (by repeat (first | exact Has.head | apply Has.tail))) (fun _ => hx49)) ⟨fun w hm => hm.sub (by repeat (first | exact List.Sublist.refl _ | apply List.Sublist.cons_cons | apply List.Sublist.cons)), ?_⟩)
                      refine az_one 7 rfl (st_bslice (α := Str) 9 (fun _ => ()) ([x48] : List Str) (OkL.flat (fun _ _ _ _ => trivial)) (fun r50 => ⟨fun w hm => hm.sub (by repeat (first | exact List.Sublist.refl _ | apply List.Sublist.cons_cons | apply List.Sublist.cons)), ?_⟩))
                      obtain ⟨hb52, hM⟩ := chk_some hM
                      refine az_one 8 rfl (st_append (r := rx_j1_0) (r2 := r50) (by intro r'; repeat (first | exact Upd.head | apply Upd.tail)) (Kn.trow (e := 9) (r := r50) (by repeat (first | exact Has.head | apply Has.tail))) (OkL.flat (fun _ _ _ _ => trivial)) (of_decide_eq_true hb52) (fun r51 => ⟨fun w hm => hm.sub (by repeat (first | exact List.Sublist.refl _ | apply List.Sublist.cons_cons | apply List.Sublist.cons)), ?_⟩))
                      refine az_ev 9 rfl (ev_field_addr 0) ?_
                      refine az_last rfl (st_store_own (b := bx_j1) (l' := [.slice r51.a (((([] : List Str) ++ l0.Stations) ++ ([x48] : List Str)).length) r51.cap, .slice rx_j1_1.a ((([] : List Str) ++ l0.Points).length) rx_j1_1.cap, .slice rx_j1_2.a ((([] : List Section) ++ l0.Sections).length) rx_j1_2.cap, .slice rx_j1_3.a ((([] : List Link) ++ l0.Links).length) rx_j1_3.cap]) (k := ?_))
                      refine az_done (hJ2 ((((([] : List Str) ++ l0.Stations) ++ ([x48] : List Str)), (([] : List Str) ++ l0.Points), (([] : List Section) ++ l0.Sections), (([] : List Link) ++ l0.Links)), (r51, rx_j1_1, rx_j1_2, rx_j1_3)) _ _ hM ⟨rfl, rfl, trivial⟩ (fun w hm => hm.reord))
                  ·
                    replace hM := (ite_f hc38).symm.trans hM
                    refine cw_seq fun K14 hK14 => ?_
                    refine cw_region ?_
                    refine ow_ev ev_eql ?_
                    refine ow_ev ev_assign ?_
                    refine ow_nil (hK14 _ _ ?_); clear hK14
                    refine cw_cond rfl (fun hc53 => ?_) (fun hc53 => ?_)
                    ·
                      replace hM := (ite_t hc53).symm.trans hM
                      refine cw_region_z [own b2 26 [.slice none 0 0, .slice none 0 0, .slice none 0 0, .slice none 0 0], trow 9 rx_j1_0 (([] : List Str) ++ l0.Stations), trow 57 rx_j1_2 (([] : List Section) ++ l0.Sections), trow 72 rx_j1_3 (([] : List Link) ++ l0.Links), own bx_j1 26 [.slice rx_j1_0.a ((([] : List Str) ++ l0.Stations).length) rx_j1_0.cap, .slice rx_j1_1.a ((([] : List Str) ++ l0.Points).length) rx_j1_1.cap, .slice rx_j1_2.a ((([] : List Section) ++ l0.Sections).length) rx_j1_2.cap, .slice rx_j1_3.a ((([] : List Link) ++ l0.Links).length) rx_j1_3.cap]] 10 ?_
                      refine az_ev 0 rfl (ev_field_addr 1) ?_
                      refine az_ev 1 rfl (ev_load_own (b := bx_j1)) ?_
                      refine az_ev 3 rfl ev_move ?_
                      obtain ⟨y54, hy55, hM⟩ := bind_some hM
                      refine az_two 2 4 (⟨_, rfl, rfl, st_bslice (α := Str) 9 (fun _ => ()) ([(⟨[80, 48]⟩ : Str), (⟨[81]⟩ : Str), (⟨[57]⟩ : Str)] : List Str) (OkL.flat (fun _ _ _ _ => trivial)) (fun r56 => ⟨fun w hm => hm.sub (by repeat (first | exact List.Sublist.refl _ | apply List.Sublist.cons_cons | apply List.Sublist.cons)), ?_⟩)⟩) (⟨_, rfl, rfl, st_callv (fun w hm => let ⟨S, hs⟩ := hm; keep_Pick_spec _ w v0 3 y54 hy55 (lend_lt hs) ) ⟨fun w hm => hm.sub (by repeat (first | exact List.Sublist.refl _ | apply List.Sublist.cons_cons | apply List.Sublist.cons)), ?_⟩⟩)
                      ·
                        refine az_one 4 rfl (st_callv (fun w hm => let ⟨S, hs⟩ := hm; keep_Pick_spec _ w v0 3 y54 hy55 (lend_lt hs) ) ⟨fun w hm => hm.sub (by repeat (first | exact List.Sublist.refl _ | apply List.Sublist.cons_cons | apply List.Sublist.cons)), ?_⟩)
                        obtain ⟨x57, hx58, hM⟩ := bind_some hM
                        refine az_one 5 rfl (st_ev (ev_idx (xs := ([(⟨[80, 48]⟩ : Str), (⟨[81]⟩ : Str), (⟨[57]⟩ : Str)] : List Str)) 1 (Kn.trow (e := 9) (r := r56) (by repeat (first | exact Has.head | apply Has.tail))) (fun hg => let h := idx_some hx58; ⟨h.1, h.2.1⟩)) ⟨fun w hm => hm.sub (by repeat (first | exact List.Sublist.refl _ | apply List.Sublist.cons_cons | apply List.Sublist.cons)), ?_⟩)
                        refine az_one 6 rfl (st_ev (ev_ld (i := y54) (xs := ([(⟨[80, 48]⟩ : Str), (⟨[81]⟩ : Str), (⟨[57]⟩ : Str)] : List Str)) (y := x57) 0 (Kn.trow (e := 9) (r := r56) (by repeat (first | exact Has.head | apply Has.tail))) (fun _ => hx58)) ⟨fun w hm => hm.sub (by repeat (first | exact List.Sublist.refl _ | apply List.Sublist.cons_cons | apply List.Sublist.cons)), ?_⟩)
                        refine az_one 7 rfl (st_bslice (α := Str) 9 (fun _ => ()) ([x57] : List Str) (OkL.flat (fun _ _ _ _ => trivial)) (fun r59 => ⟨fun w hm => hm.sub (by repeat (first | exact List.Sublist.refl _ | apply List.Sublist.cons_cons | apply List.Sublist.cons)), ?_⟩))
                        obtain ⟨hb61, hM⟩ := chk_some hM
                        refine az_one 8 rfl (st_append (r := rx_j1_1) (r2 := r59) (by intro r'; repeat (first | exact Upd.head | apply Upd.tail)) (Kn.trow (e := 9) (r := r59) (by repeat (first | exact Has.head | apply Has.tail))) (OkL.flat (fun _ _ _ _ => trivial)) (of_decide_eq_true hb61) (fun r60 => ⟨fun w hm => hm.sub (by repeat (first | exact List.Sublist.refl _ | apply List.Sublist.cons_cons | apply List.Sublist.cons)), ?_⟩))
                        refine az_ev 9 rfl (ev_field_addr 1) ?_
                        refine az_last rfl (st_store_own (b := bx_j1) (l' := [.slice rx_j1_0.a ((([] : List Str) ++ l0.Stations).length) rx_j1_0.cap, .slice r60.a (((([] : List Str) ++ l0.Points) ++ ([x57] : List Str)).length) r60.cap, .slice rx_j1_2.a ((([] : List Section) ++ l0.Sections).length) rx_j1_2.cap, .slice rx_j1_3.a ((([] : List Link) ++ l0.Links).length) rx_j1_3.cap]) (k := ?_))
                        refine az_done (hJ2 (((([] : List Str) ++ l0.Stations), ((([] : List Str) ++ l0.Points) ++ ([x57] : List Str)), (([] : List Section) ++ l0.Sections), (([] : List Link) ++ l0.Links)), (rx_j1_0, r60, rx_j1_2, rx_j1_3)) _ _ hM ⟨rfl, rfl, trivial⟩ (fun w hm => hm.reord))
                      ·
                        refine az_one 2 rfl (st_bslice (α := Str) 9 (fun _ => ()) ([(⟨[80, 48]⟩ : Str), (⟨[81]⟩ : Str), (⟨[57]⟩ : Str)] : List Str) (OkL.flat (fun _ _ _ _ => trivial)) (fun r62 => ⟨fun w hm => hm.sub (by repeat (first | exact List.Sublist.refl _ | apply List.Sublist.cons_cons | apply List.Sublist.cons)), ?_⟩))
                        obtain ⟨x63, hx64, hM⟩ := bind_some hM
                        refine az_one 5 rfl (st_ev (ev_idx (xs := ([(⟨[80, 48]⟩ : Str), (⟨[81]⟩ : Str), (⟨[57]⟩ : Str)] : List Str)) 1 (Kn.trow (e := 9) (r := r62) (by repeat (first | exact Has.head | apply Has.tail))) (fun hg => let h := idx_some hx64; ⟨h.1, h.2.1⟩)) ⟨fun w hm => hm.sub (by repeat (first | exact List.Sublist.refl _ | apply List.Sublist.cons_cons | apply List.Sublist.cons)), ?_⟩)
                        refine az_one 6 rfl (st_ev (ev_ld (i := y54) (xs := ([(⟨[80, 48]⟩ : Str), (⟨[81]⟩ : Str), (⟨[57]⟩ : Str)] : List Str)) (y := x63) 0 (Kn.trow (e := 9) (r := r62) (by repeat (first | exact Has.head | apply Has.tail))) (fun _ => hx64)) ⟨fun w hm => hm.sub (by repeat (first | exact List.Sublist.refl _ | apply List.Sublist.cons_cons | apply List.Sublist.cons)), ?_⟩)
                        refine az_one 7 rfl (st_bslice (α := Str) 9 (fun _ => ()) ([x63] : List Str) (OkL.flat (fun _ _ _ _ => trivial)) (fun r65 => ⟨fun w hm => hm.sub (by repeat (first | exact List.Sublist.refl _ | apply List.Sublist.cons_cons | apply List.Sublist.cons)), ?_⟩))
                        obtain ⟨hb67, hM⟩ := chk_some hM
                        refine az_one 8 rfl (st_append (r := rx_j1_1) (r2 := r65) (by intro r'; repeat (first | exact Upd.head | apply Upd.tail)) (Kn.trow (e := 9) (r := r65) (by repeat (first | exact Has.head | apply Has.tail))) (OkL.flat (fun _ _ _ _ => trivial)) (of_decide_eq_true hb67) (fun r66 => ⟨fun w hm => hm.sub (by repeat (first | exact List.Sublist.refl _ | apply List.Sublist.cons_cons | apply List.Sublist.cons)), ?_⟩))
                        refine az_ev 9 rfl (ev_field_addr 1) ?_
                        refine az_last rfl (st_store_own (b := bx_j1) (l' := [.slice rx_j1_0.a ((([] : List Str) ++ l0.Stations).length) rx_j1_0.cap, .slice r66.a (((([] : List Str) ++ l0.Points) ++ ([x63] : List Str)).length) r66.cap, .slice rx_j1_2.a ((([] : List Section) ++ l0.Sections).length) rx_j1_2.cap, .slice rx_j1_3.a ((([] : List Link) ++ l0.Links).length) rx_j1_3.cap]) (k := ?_))
                        refine az_done (hJ2 (((([] : List Str) ++ l0.Stations), ((([] : List Str) ++ l0.Points) ++ ([x63] : List Str)), (([] : List Section) ++ l0.Sections), (([] : List Link) ++ l0.Links)), (rx_j1_0, r66, rx_j1_2, rx_j1_3)) _ _ hM ⟨rfl, rfl, trivial⟩ (fun w hm => hm.reord))
                    ·
                      replace hM := (ite_f hc53).symm.trans hM
                      refine cw_seq fun K15 hK15 => ?_
                      refine cw_region ?_
                      refine ow_ev ev_eql ?_
                      refine ow_ev ev_assign ?_
                      refine ow_nil (hK15 _ _ ?_); clear hK15
                      refine cw_cond rfl (fun hc68 => ?_) (fun hc68 => ?_)
                      ·
                        replace hM := (ite_t hc68).symm.trans hM
                        refine cw_region_z [own b2 26 [.slice none 0 0, .slice none 0 0, .slice none 0 0, .slice none 0 0], trow 9 rx_j1_0 (([] : List Str) ++ l0.Stations), trow 9 rx_j1_1 (([] : List Str) ++ l0.Points), trow 57 rx_j1_2 (([] : List Section) ++ l0.Sections), own bx_j1 26 [.slice rx_j1_0.a ((([] : List Str) ++ l0.Stations).length) rx_j1_0.cap, .slice rx_j1_1.a ((([] : List Str) ++ l0.Points).length) rx_j1_1.cap, .slice rx_j1_2.a ((([] : List Section) ++ l0.Sections).length) rx_j1_2.cap, .slice rx_j1_3.a ((([] : List Link) ++ l0.Links).length) rx_j1_3.cap]] 35 ?_
                        refine az_ev 0 rfl (ev_field_addr 3) ?_
                        refine az_ev 1 rfl (ev_load_own (b := bx_j1)) ?_
                        refine az_ev 2 rfl ev_move ?_
                        refine az_ev 3 rfl (ev_field_addr 2) ?_
                        refine az_ev 4 rfl (ev_load_own (b := bx_j1)) ?_
                        refine az_ev 5 rfl ev_len ?_
                        obtain ⟨hI69, hM⟩ := chk_some hM
                        refine az_ev 6 rfl (ev_add (hr := fun hg => i64b_I64 hI69)) ?_
                        refine az_ev 8 rfl ev_move ?_
                        refine az_ev 10 rfl ev_move ?_
                        obtain ⟨hI70, hM⟩ := chk_some hM
                        refine az_ev 11 rfl (ev_quo' (hr := fun hg => quo_ok hI70)) ?_
                        refine az_ev 12 rfl (ev_field_addr 2) ?_
                        refine az_ev 13 rfl (ev_load_own (b := bx_j1)) ?_
                        refine az_ev 14 rfl ev_len ?_
                        obtain ⟨hI71, hM⟩ := chk_some hM
                        refine az_ev 15 rfl (ev_add (hr := fun hg => i64b_I64 hI71)) ?_
                        refine az_ev 17 rfl ev_move ?_
                        obtain ⟨hI72, hM⟩ := chk_some hM
                        refine az_ev 18 rfl (ev_quo' (hr := fun hg => quo_ok hI72)) ?_
                        refine az_ev 20 rfl ev_move ?_
                        obtain ⟨hI73, hM⟩ := chk_some hM
                        refine az_ev 21 rfl (ev_quo' (hr := fun hg => quo_ok hI73)) ?_
                        refine az_ev 22 rfl (ev_field_addr 1) ?_
                        refine az_ev 23 rfl (ev_load_own (b := bx_j1)) ?_
                        refine az_ev 24 rfl ev_len ?_
                        obtain ⟨hI74, hM⟩ := chk_some hM
                        refine az_ev 25 rfl (ev_add (hr := fun hg => i64b_I64 hI74)) ?_
                        refine az_ev 28 rfl ev_move ?_
                        obtain ⟨hI75, hM⟩ := chk_some hM
                        refine az_ev 29 rfl (ev_quo' (hr := fun hg => quo_ok hI75)) ?_
                        obtain ⟨y76, hy77, hM⟩ := bind_some hM
                        refine az_one 7 rfl (st_callv (fun w hm => let ⟨S, hs⟩ := hm; keep_Pick_spec _ w at0 (((([] : List Section) ++ l0.Sections).length : Int) + 1) y76 hy77 (lend_lt hs) ) ⟨fun w hm => hm.sub (by repeat (first | exact List.Sublist.refl _ | apply List.Sublist.cons_cons | apply List.Sublist.cons)), ?_⟩)
                        obtain ⟨y78, hy79, hM⟩ := bind_some hM
                        refine az_one 9 rfl (st_callv (fun w hm => let ⟨S, hs⟩ := hm; keep_Pick_spec _ w v0 2 y78 hy79 (lend_lt hs) ) ⟨fun w hm => hm.sub (by repeat (first | exact List.Sublist.refl _ | apply List.Sublist.cons_cons | apply List.Sublist.cons)), ?_⟩)
                        obtain ⟨y80, hy81, hM⟩ := bind_some hM
                        refine az_one 16 rfl (st_callv (fun w hm => let ⟨S, hs⟩ := hm; keep_Pick_spec _ w (v0.tdiv 2) (((([] : List Section) ++ l0.Sections).length : Int) + 1) y80 hy81 (lend_lt hs) ) ⟨fun w hm => hm.sub (by repeat (first | exact List.Sublist.refl _ | apply List.Sublist.cons_cons | apply List.Sublist.cons)), ?_⟩)
                        obtain ⟨y82, hy83, hM⟩ := bind_some hM
                        refine az_one 19 rfl (st_callv (fun w hm => let ⟨S, hs⟩ := hm; keep_Pick_spec _ w (v0.tdiv 200) 2 y82 hy83 (lend_lt hs) ) ⟨fun w hm => hm.sub (by repeat (first | exact List.Sublist.refl _ | apply List.Sublist.cons_cons | apply List.Sublist.cons)), ?_⟩)
                        obtain ⟨y84, hy85, hM⟩ := bind_some hM
                        refine az_one 26 rfl (st_callv (fun w hm => let ⟨S, hs⟩ := hm; keep_Pick_spec _ w (v0.tdiv 400) (((([] : List Str) ++ l0.Points).length : Int) + 2) y84 hy85 (lend_lt hs) ) ⟨fun w hm => hm.sub (by repeat (first | exact List.Sublist.refl _ | apply List.Sublist.cons_cons | apply List.Sublist.cons)), ?_⟩)
                        obtain ⟨hI86, hM⟩ := chk_some hM
                        refine az_ev 27 rfl (ev_sub (hr := fun hg => i64b_I64 hI86)) ?_
                        obtain ⟨y87, hy88, hM⟩ := bind_some hM
                        refine az_one 30 rfl (st_callv (fun w hm => let ⟨S, hs⟩ := hm; keep_Pick_spec _ w (v0.tdiv 7) 2 y87 hy88 (lend_lt hs) ) ⟨fun w hm => hm.sub (by repeat (first | exact List.Sublist.refl _ | apply List.Sublist.cons_cons | apply List.Sublist.cons)), ?_⟩)
                        refine az_ev 31 rfl (ev_build [.int .i64 y76, .int .i64 y78, .int .i64 y80, .int .i64 y82, .int .i64 (y84 - 1), .int .i64 y87]) ?_
                        refine az_one 32 rfl (st_bslice (α := Link) 72 (fun _ => ()) ([(Link.mk y76 y78 y80 y82 (y84 - 1) y87)] : List Link) (OkL.flat (fun _ _ _ _ => trivial)) (fun r89 => ⟨fun w hm => hm.sub (by repeat (first | exact List.Sublist.refl _ | apply List.Sublist.cons_cons | apply List.Sublist.cons)), ?_⟩))
                        obtain ⟨hb91, hM⟩ := chk_some hM
                        refine az_one 33 rfl (st_append (r := rx_j1_3) (r2 := r89) (by intro r'; repeat (first | exact Upd.head | apply Upd.tail)) (Kn.trow (e := 72) (r := r89) (by repeat (first | exact Has.head | apply Has.tail))) (OkL.flat (fun _ _ _ _ => trivial)) (of_decide_eq_true hb91) (fun r90 => ⟨fun w hm => hm.sub (by repeat (first | exact List.Sublist.refl _ | apply List.Sublist.cons_cons | apply List.Sublist.cons)), ?_⟩))
                        refine az_ev 34 rfl (ev_field_addr 3) ?_
                        refine az_last rfl (st_store_own (b := bx_j1) (l' := [.slice rx_j1_0.a ((([] : List Str) ++ l0.Stations).length) rx_j1_0.cap, .slice rx_j1_1.a ((([] : List Str) ++ l0.Points).length) rx_j1_1.cap, .slice rx_j1_2.a ((([] : List Section) ++ l0.Sections).length) rx_j1_2.cap, .slice r90.a (((([] : List Link) ++ l0.Links) ++ ([(Link.mk y76 y78 y80 y82 (y84 - 1) y87)] : List Link)).length) r90.cap]) (k := ?_))
                        refine az_done (hJ2 (((([] : List Str) ++ l0.Stations), (([] : List Str) ++ l0.Points), (([] : List Section) ++ l0.Sections), ((([] : List Link) ++ l0.Links) ++ ([(Link.mk y76 y78 y80 y82 (y84 - 1) y87)] : List Link))), (rx_j1_0, rx_j1_1, rx_j1_2, r90)) _ _ hM ⟨rfl, rfl, trivial⟩ (fun w hm => hm.reord))
                      ·
                        replace hM := (ite_f hc68).symm.trans hM
                        refine cw_seq fun K16 hK16 => ?_
                        refine cw_region ?_
                        refine ow_ev ev_eql ?_
                        refine ow_ev ev_assign ?_
                        refine ow_nil (hK16 _ _ ?_); clear hK16
                        refine cw_cond rfl (fun hc92 => ?_) (fun hc92 => ?_)
                        ·
                          replace hM := (ite_t hc92).symm.trans hM
                          refine cw_seq fun K17 hK17 => ?_
                          refine cw_region ?_
                          refine ow_ev (ev_field_addr 3) ?_
                          refine ow_ev (ev_load_own (b := bx_j1)) ?_
                          refine ow_ev ev_len ?_
                          refine ow_ev ev_gtr ?_
                          refine ow_nil (hK17 _ _ ?_); clear hK17
                          refine cw_cond rfl (fun hc93 => ?_) (fun hc93 => ?_)
                          ·
                            replace hM := (ite_t hc93).symm.trans hM
                            refine cw_seq fun K18 hK18 => ?_
                            refine cw_region_any _ (List.Sublist.refl _) ?_
                            refine aw_ev 0 rfl (ev_field_addr 3) ?_
                            refine aw_ev 1 rfl (ev_load_own (b := bx_j1)) ?_
                            refine aw_ev 2 rfl ev_move ?_
                            refine aw_ev 3 rfl (ev_field_addr 3) ?_
                            refine aw_ev 4 rfl (ev_load_own (b := bx_j1)) ?_
                            refine aw_ev 5 rfl ev_len ?_
                            obtain ⟨y94, hy95, hM⟩ := bind_some hM
                            refine aw_one 6 rfl (st_callv (fun w hm => let ⟨S, hs⟩ := hm; keep_Pick_spec _ w at0 ((([] : List Link) ++ l0.Links).length : Int) y94 hy95 (lend_lt hs) ) ⟨fun w hm => hm.sub (by repeat (first | exact List.Sublist.refl _ | apply List.Sublist.cons_cons | apply List.Sublist.cons)), ?_⟩)
                            obtain ⟨x96, hx97, hM⟩ := bind_some hM
                            refine aw_ev 7 rfl (ev_idx (xs := (([] : List Link) ++ l0.Links)) 6 (Kn.trow (e := 72) (r := rx_j1_3) (by repeat (first | exact Has.head | apply Has.tail))) (fun hg => let h := idx_some hx97; ⟨h.1, h.2.1⟩)) ?_
                            refine aw_ev 8 rfl ev_assign ?_
                            refine aw_done (hK18 _ _ ?_); clear hK18
                            refine cw_region ?_
                            refine ow_ev ev_move ?_
                            refine ow_ev ev_move ?_
                            refine ow_ev ev_move ?_
                            refine ow_ev (ev_field_addr 1) ?_
                            refine ow_ev (ev_load_own (b := bx_j1)) ?_
                            refine ow_ev ev_len ?_
                            obtain ⟨hI98, hM⟩ := chk_some hM
                            refine ow_ev (ev_add (hr := fun hg => i64b_I64 hI98)) ?_
                            obtain ⟨y99, hy100, hM⟩ := bind_some hM
                            refine ow_cons (st_callv (fun w hm => let ⟨S, hs⟩ := hm; keep_Pick_spec _ w v0 (((([] : List Str) ++ l0.Points).length : Int) + 3) y99 hy100 (lend_lt hs) ) ?_)
                            obtain ⟨hI101, hM⟩ := chk_some hM
                            refine ow_ev (ev_sub (hr := fun hg => i64b_I64 hI101)) ?_
                            refine ow_ev ev_move ?_
                            obtain ⟨hI102, hM⟩ := chk_some hM
                            refine ow_ev (ev_quo' (hr := fun hg => quo_ok hI102)) ?_
                            obtain ⟨y103, hy104, hM⟩ := bind_some hM
                            refine ow_cons (st_callv (fun w hm => let ⟨S, hs⟩ := hm; keep_Pick_spec _ w (v0.tdiv 9) 3 y103 hy104 (lend_lt hs) ) ?_)
                            refine ow_ev ev_nilcheck ?_
                            refine ow_ev (ev_field_addr 4) ?_
                            refine ow_cons (st_set (r := rx_j1_3) (i := y94) (xs := (([] : List Link) ++ l0.Links)) (u := x96) (vs := [.int .i64 (y99 - 2)]) 4 (Link.mk x96.A x96.AEnd x96.B x96.BEnd (y99 - 2) x96.Pos) hx97 rfl (fun _ _ h => h) (by repeat (first | exact Upd.head | apply Upd.tail)) ?_)
                            have hx105 := idx_set_same (u := (Link.mk x96.A x96.AEnd x96.B x96.BEnd (y99 - 2) x96.Pos)) hx97
                            refine ow_ev ev_nilcheck ?_
                            refine ow_ev (ev_field_addr 5) ?_
                            refine ow_cons (st_set (r := rx_j1_3) (i := y94) (xs := ((([] : List Link) ++ l0.Links).set y94.toNat (Link.mk x96.A x96.AEnd x96.B x96.BEnd (y99 - 2) x96.Pos))) (u := (Link.mk x96.A x96.AEnd x96.B x96.BEnd (y99 - 2) x96.Pos)) (vs := [.int .i64 y103]) 5 (Link.mk ((Link.mk x96.A x96.AEnd x96.B x96.BEnd (y99 - 2) x96.Pos).A) ((Link.mk x96.A x96.AEnd x96.B x96.BEnd (y99 - 2) x96.Pos).AEnd) ((Link.mk x96.A x96.AEnd x96.B x96.BEnd (y99 - 2) x96.Pos).B) ((Link.mk x96.A x96.AEnd x96.B x96.BEnd (y99 - 2) x96.Pos).BEnd) ((Link.mk x96.A x96.AEnd x96.B x96.BEnd (y99 - 2) x96.Pos).Point) y103) hx105 rfl (fun _ _ h => h) (by repeat (first | exact Upd.head | apply Upd.tail)) ?_)
                            have hx106 := idx_set_same (u := (Link.mk ((Link.mk x96.A x96.AEnd x96.B x96.BEnd (y99 - 2) x96.Pos).A) ((Link.mk x96.A x96.AEnd x96.B x96.BEnd (y99 - 2) x96.Pos).AEnd) ((Link.mk x96.A x96.AEnd x96.B x96.BEnd (y99 - 2) x96.Pos).B) ((Link.mk x96.A x96.AEnd x96.B x96.BEnd (y99 - 2) x96.Pos).BEnd) ((Link.mk x96.A x96.AEnd x96.B x96.BEnd (y99 - 2) x96.Pos).Point) y103)) hx105
                            refine ow_nil (hJ2 (((([] : List Str) ++ l0.Stations), (([] : List Str) ++ l0.Points), (([] : List Section) ++ l0.Sections), (((([] : List Link) ++ l0.Links).set y94.toNat (Link.mk x96.A x96.AEnd x96.B x96.BEnd (y99 - 2) x96.Pos)).set y94.toNat (Link.mk ((Link.mk x96.A x96.AEnd x96.B x96.BEnd (y99 - 2) x96.Pos).A) ((Link.mk x96.A x96.AEnd x96.B x96.BEnd (y99 - 2) x96.Pos).AEnd) ((Link.mk x96.A x96.AEnd x96.B x96.BEnd (y99 - 2) x96.Pos).B) ((Link.mk x96.A x96.AEnd x96.B x96.BEnd (y99 - 2) x96.Pos).BEnd) ((Link.mk x96.A x96.AEnd x96.B x96.BEnd (y99 - 2) x96.Pos).Point) y103))), (rx_j1_0, rx_j1_1, rx_j1_2, rx_j1_3)) _ _ hM ⟨rfl, rfl, trivial⟩ (fun w hm => by simp only [List.length_set]; exact hm.reord))
                          ·
                            replace hM := (ite_f hc93).symm.trans hM
                            refine cw_skip (hJ2 (((([] : List Str) ++ l0.Stations), (([] : List Str) ++ l0.Points), (([] : List Section) ++ l0.Sections), (([] : List Link) ++ l0.Links)), (rx_j1_0, rx_j1_1, rx_j1_2, rx_j1_3)) _ _ hM ⟨rfl, rfl, trivial⟩ (fun w hm => hm.reord))
                        ·
                          replace hM := (ite_f hc92).symm.trans hM
                          refine cw_seq fun K19 hK19 => ?_
                          refine cw_region ?_
                          refine ow_ev ev_eql ?_
                          refine ow_ev ev_assign ?_
                          refine ow_nil (hK19 _ _ ?_); clear hK19
                          refine cw_cond rfl (fun hc107 => ?_) (fun hc107 => ?_)
                          ·
                            replace hM := (ite_t hc107).symm.trans hM
                            refine cw_seq fun K20 hK20 => ?_
                            refine cw_region ?_
                            refine ow_ev (ev_field_addr 3) ?_
                            refine ow_ev (ev_load_own (b := bx_j1)) ?_
                            refine ow_ev ev_len ?_
                            refine ow_ev ev_gtr ?_
                            refine ow_nil (hK20 _ _ ?_); clear hK20
                            refine cw_cond rfl (fun hc108 => ?_) (fun hc108 => ?_)
                            ·
                              replace hM := (ite_t hc108).symm.trans hM
                              refine cw_seq fun K21 hK21 => ?_
                              refine cw_region ?_
                              refine ow_ev ev_move ?_
                              refine ow_ev (ev_field_addr 3) ?_
                              refine ow_ev (ev_load_own (b := bx_j1)) ?_
                              refine ow_ev ev_len ?_
                              obtain ⟨y109, hy110, hM⟩ := bind_some hM
                              refine ow_cons (st_callv (fun w hm => let ⟨S, hs⟩ := hm; keep_Pick_spec _ w at0 ((([] : List Link) ++ l0.Links).length : Int) y109 hy110 (lend_lt hs) ) ?_)
                              refine ow_ev ev_assign ?_
                              refine ow_nil (hK21 _ _ ?_); clear hK21
                              refine cw_region_z [own b2 26 [.slice none 0 0, .slice none 0 0, .slice none 0 0, .slice none 0 0], trow 9 rx_j1_0 (([] : List Str) ++ l0.Stations), trow 9 rx_j1_1 (([] : List Str) ++ l0.Points), trow 57 rx_j1_2 (([] : List Section) ++ l0.Sections), own bx_j1 26 [.slice rx_j1_0.a ((([] : List Str) ++ l0.Stations).length) rx_j1_0.cap, .slice rx_j1_1.a ((([] : List Str) ++ l0.Points).length) rx_j1_1.cap, .slice rx_j1_2.a ((([] : List Section) ++ l0.Sections).length) rx_j1_2.cap, .slice rx_j1_3.a ((([] : List Link) ++ l0.Links).length) rx_j1_3.cap]] 11 ?_
                              refine az_ev 0 rfl (ev_field_addr 3) ?_
                              refine az_ev 1 rfl (ev_load_own (b := bx_j1)) ?_
                              refine az_ev 2 rfl ev_move ?_
                              obtain ⟨l111, hl112, hM⟩ := bind_some hM
                              refine az_have (fun w hm => Kn.capL (Kn.trow (e := 72) (r := rx_j1_3) (by repeat (first | exact Has.head | apply Has.tail))) hm) fun hcap113 => ?_
                              refine az_ev 3 rfl (ev_subc (xs := (([] : List Link) ++ l0.Links)) (ol := none) (oh := some (.i64, y109)) hcap113 (fun _ => hl112)) ?_
                              refine az_ev 4 rfl (ev_field_addr 3) ?_
                              refine az_ev 5 rfl (ev_load_own (b := bx_j1)) ?_
                              refine az_ev 6 rfl ev_move ?_
                              obtain ⟨hI114, hM⟩ := chk_some hM
                              refine az_ev 7 rfl (ev_add (hr := fun hg => i64b_I64 hI114)) ?_
                              obtain ⟨l115, hl116, hM⟩ := bind_some hM
                              refine az_have (fun w hm => Kn.capL (Kn.trow (e := 72) (r := rx_j1_3) (by repeat (first | exact Has.head | apply Has.tail))) hm) fun hcap117 => ?_
                              refine az_ev 8 rfl (ev_subc (xs := (([] : List Link) ++ l0.Links)) (ol := some (.i64, (y109 + 1))) (oh := none) hcap117 (fun _ => hl116)) ?_
                              obtain ⟨hb119, hM⟩ := chk_some hM
                              refine az_one 9 rfl (st_appendH (r := rx_j1_3) (r2 := (rx_j1_3.sub (oval (some (.i64, (y109 + 1))) 0).toNat (GoRep.n Link))) hl112 (by intro r'; repeat (first | exact Upd.head | apply Upd.tail)) (Kn.subv (Kn.trow (e := 72) (r := rx_j1_3) (by repeat (first | exact Has.head | apply Has.tail))) hl116) (OkL.flat (fun _ _ _ _ => trivial)) (of_decide_eq_true hb119) (fun r118 => ⟨fun w hm => hm.sub (by repeat (first | exact List.Sublist.refl _ | apply List.Sublist.cons_cons | apply List.Sublist.cons)), ?_⟩))
                              refine az_ev 10 rfl (ev_field_addr 3) ?_
                              refine az_last rfl (st_store_own (b := bx_j1) (l' := [.slice rx_j1_0.a ((([] : List Str) ++ l0.Stations).length) rx_j1_0.cap, .slice rx_j1_1.a ((([] : List Str) ++ l0.Points).length) rx_j1_1.cap, .slice rx_j1_2.a ((([] : List Section) ++ l0.Sections).length) rx_j1_2.cap, .slice r118.a ((l111 ++ l115).length) r118.cap]) (k := ?_))
                              refine az_done (hJ2 (((([] : List Str) ++ l0.Stations), (([] : List Str) ++ l0.Points), (([] : List Section) ++ l0.Sections), (l111 ++ l115)), (rx_j1_0, rx_j1_1, rx_j1_2, r118)) _ _ hM ⟨rfl, rfl, trivial⟩ (fun w hm => hm.reord))
                            ·
                              replace hM := (ite_f hc108).symm.trans hM
                              refine cw_skip (hJ2 (((([] : List Str) ++ l0.Stations), (([] : List Str) ++ l0.Points), (([] : List Section) ++ l0.Sections), (([] : List Link) ++ l0.Links)), (rx_j1_0, rx_j1_1, rx_j1_2, rx_j1_3)) _ _ hM ⟨rfl, rfl, trivial⟩ (fun w hm => hm.reord))
                          ·
                            replace hM := (ite_f hc107).symm.trans hM
                            refine cw_seq fun K22 hK22 => ?_
                            refine cw_region ?_
                            refine ow_ev ev_eql ?_
                            refine ow_ev ev_assign ?_
                            refine ow_nil (hK22 _ _ ?_); clear hK22
                            refine cw_cond rfl (fun hc120 => ?_) (fun hc120 => ?_)
                            ·
                              replace hM := (ite_t hc120).symm.trans hM
                              refine cw_seq fun K23 hK23 => ?_
                              refine cw_region ?_
                              refine ow_ev (ev_field_addr 3) ?_
                              refine ow_ev (ev_load_own (b := bx_j1)) ?_
                              refine ow_ev ev_len ?_
                              refine ow_ev ev_gtr ?_
                              refine ow_nil (hK23 _ _ ?_); clear hK23
                              refine cw_cond rfl (fun hc121 => ?_) (fun hc121 => ?_)
                              ·
                                replace hM := (ite_t hc121).symm.trans hM
                                refine cw_seq fun K24 hK24 => ?_
                                refine cw_region_any _ (List.Sublist.refl _) ?_
                                refine aw_ev 0 rfl (ev_field_addr 3) ?_
                                refine aw_ev 1 rfl (ev_load_own (b := bx_j1)) ?_
                                refine aw_ev 2 rfl ev_move ?_
                                refine aw_ev 3 rfl (ev_field_addr 3) ?_
                                refine aw_ev 4 rfl (ev_load_own (b := bx_j1)) ?_
                                refine aw_ev 5 rfl ev_len ?_
                                obtain ⟨y122, hy123, hM⟩ := bind_some hM
                                refine aw_one 6 rfl (st_callv (fun w hm => let ⟨S, hs⟩ := hm; keep_Pick_spec _ w at0 ((([] : List Link) ++ l0.Links).length : Int) y122 hy123 (lend_lt hs) ) ⟨fun w hm => hm.sub (by repeat (first | exact List.Sublist.refl _ | apply List.Sublist.cons_cons | apply List.Sublist.cons)), ?_⟩)
                                obtain ⟨x124, hx125, hM⟩ := bind_some hM
                                refine aw_ev 7 rfl (ev_idx (xs := (([] : List Link) ++ l0.Links)) 6 (Kn.trow (e := 72) (r := rx_j1_3) (by repeat (first | exact Has.head | apply Has.tail))) (fun hg => let h := idx_some hx125; ⟨h.1, h.2.1⟩)) ?_
                                refine aw_ev 8 rfl ev_assign ?_
                                refine aw_done (hK24 _ _ ?_); clear hK24
                                refine cw_region_any [own b2 26 [.slice none 0 0, .slice none 0 0, .slice none 0 0, .slice none 0 0], trow 9 rx_j1_0 (([] : List Str) ++ l0.Stations), trow 9 rx_j1_1 (([] : List Str) ++ l0.Points), trow 57 rx_j1_2 (([] : List Section) ++ l0.Sections), own bx_j1 26 [.slice rx_j1_0.a ((([] : List Str) ++ l0.Stations).length) rx_j1_0.cap, .slice rx_j1_1.a ((([] : List Str) ++ l0.Points).length) rx_j1_1.cap, .slice rx_j1_2.a ((([] : List Section) ++ l0.Sections).length) rx_j1_2.cap, .slice rx_j1_3.a ((([] : List Link) ++ l0.Links).length) rx_j1_3.cap]] (by repeat (first | exact List.Sublist.refl _ | apply List.Sublist.cons_cons | apply List.Sublist.cons)) ?_
                                refine aw_ev 0 rfl ev_move ?_
                                refine aw_ev 1 rfl ev_move ?_
                                refine aw_ev 2 rfl ev_move ?_
                                refine aw_ev 4 rfl ev_move ?_
                                obtain ⟨hI126, hM⟩ := chk_some hM
                                refine aw_ev 5 rfl (ev_quo' (hr := fun hg => quo_ok hI126)) ?_
                                refine aw_ev 6 rfl (ev_field_addr 2) ?_
                                refine aw_ev 7 rfl (ev_load_own (b := bx_j1)) ?_
                                refine aw_ev 8 rfl ev_len ?_
                                obtain ⟨hI127, hM⟩ := chk_some hM
                                refine aw_ev 9 rfl (ev_add (hr := fun hg => i64b_I64 hI127)) ?_
                                obtain ⟨y128, hy129, hM⟩ := bind_some hM
                                refine aw_one 3 rfl (st_callv (fun w hm => let ⟨S, hs⟩ := hm; keep_Pick_spec _ w v0 3 y128 hy129 (lend_lt hs) ) ⟨fun w hm => hm.sub (by repeat (first | exact List.Sublist.refl _ | apply List.Sublist.cons_cons | apply List.Sublist.cons)), ?_⟩)
                                obtain ⟨y130, hy131, hM⟩ := bind_some hM
                                refine aw_one 10 rfl (st_callv (fun w hm => let ⟨S, hs⟩ := hm; keep_Pick_spec _ w (v0.tdiv 3) (((([] : List Section) ++ l0.Sections).length : Int) + 1) y130 hy131 (lend_lt hs) ) ⟨fun w hm => hm.sub (by repeat (first | exact List.Sublist.refl _ | apply List.Sublist.cons_cons | apply List.Sublist.cons)), ?_⟩)
                                refine aw_ev 11 rfl ev_nilcheck ?_
                                refine aw_ev 12 rfl (ev_field_addr 1) ?_
                                refine aw_one 13 rfl (st_set (r := rx_j1_3) (i := y122) (xs := (([] : List Link) ++ l0.Links)) (u := x124) (vs := [.int .i64 y128]) 1 (Link.mk x124.A y128 x124.B x124.BEnd x124.Point x124.Pos) hx125 rfl (fun _ _ h => h) (by repeat (first | exact Upd.head | apply Upd.tail)) ⟨fun w hm => hm.sub (by repeat (first | exact List.Sublist.refl _ | apply List.Sublist.cons_cons | apply List.Sublist.cons)), ?_⟩)
                                have hx132 := idx_set_same (u := (Link.mk x124.A y128 x124.B x124.BEnd x124.Point x124.Pos)) hx125
                                refine aw_ev 14 rfl ev_nilcheck ?_
                                refine aw_ev 15 rfl (ev_field_addr 2) ?_
                                refine aw_one 16 rfl (st_set (r := rx_j1_3) (i := y122) (xs := ((([] : List Link) ++ l0.Links).set y122.toNat (Link.mk x124.A y128 x124.B x124.BEnd x124.Point x124.Pos))) (u := (Link.mk x124.A y128 x124.B x124.BEnd x124.Point x124.Pos)) (vs := [.int .i64 y130]) 2 (Link.mk ((Link.mk x124.A y128 x124.B x124.BEnd x124.Point x124.Pos).A) ((Link.mk x124.A y128 x124.B x124.BEnd x124.Point x124.Pos).AEnd) y130 ((Link.mk x124.A y128 x124.B x124.BEnd x124.Point x124.Pos).BEnd) ((Link.mk x124.A y128 x124.B x124.BEnd x124.Point x124.Pos).Point) ((Link.mk x124.A y128 x124.B x124.BEnd x124.Point x124.Pos).Pos)) hx132 rfl (fun _ _ h => h) (by repeat (first | exact Upd.head | apply Upd.tail)) ⟨fun w hm => hm.sub (by repeat (first | exact List.Sublist.refl _ | apply List.Sublist.cons_cons | apply List.Sublist.cons)), ?_⟩)
                                have hx133 := idx_set_same (u := (Link.mk ((Link.mk x124.A y128 x124.B x124.BEnd x124.Point x124.Pos).A) ((Link.mk x124.A y128 x124.B x124.BEnd x124.Point x124.Pos).AEnd) y130 ((Link.mk x124.A y128 x124.B x124.BEnd x124.Point x124.Pos).BEnd) ((Link.mk x124.A y128 x124.B x124.BEnd x124.Point x124.Pos).Point) ((Link.mk x124.A y128 x124.B x124.BEnd x124.Point x124.Pos).Pos))) hx132
                                refine aw_done (hJ2 (((([] : List Str) ++ l0.Stations), (([] : List Str) ++ l0.Points), (([] : List Section) ++ l0.Sections), (((([] : List Link) ++ l0.Links).set y122.toNat (Link.mk x124.A y128 x124.B x124.BEnd x124.Point x124.Pos)).set y122.toNat (Link.mk ((Link.mk x124.A y128 x124.B x124.BEnd x124.Point x124.Pos).A) ((Link.mk x124.A y128 x124.B x124.BEnd x124.Point x124.Pos).AEnd) y130 ((Link.mk x124.A y128 x124.B x124.BEnd x124.Point x124.Pos).BEnd) ((Link.mk x124.A y128 x124.B x124.BEnd x124.Point x124.Pos).Point) ((Link.mk x124.A y128 x124.B x124.BEnd x124.Point x124.Pos).Pos)))), (rx_j1_0, rx_j1_1, rx_j1_2, rx_j1_3)) _ _ hM ⟨rfl, rfl, trivial⟩ (fun w hm => by simp only [List.length_set]; exact hm.reord))
                              ·
                                replace hM := (ite_f hc121).symm.trans hM
                                refine cw_skip (hJ2 (((([] : List Str) ++ l0.Stations), (([] : List Str) ++ l0.Points), (([] : List Section) ++ l0.Sections), (([] : List Link) ++ l0.Links)), (rx_j1_0, rx_j1_1, rx_j1_2, rx_j1_3)) _ _ hM ⟨rfl, rfl, trivial⟩ (fun w hm => hm.reord))
                            ·
                              replace hM := (ite_f hc120).symm.trans hM
                              refine cw_region_z [own b2 26 [.slice none 0 0, .slice none 0 0, .slice none 0 0, .slice none 0 0], trow 9 rx_j1_0 (([] : List Str) ++ l0.Stations), trow 9 rx_j1_1 (([] : List Str) ++ l0.Points), trow 72 rx_j1_3 (([] : List Link) ++ l0.Links), own bx_j1 26 [.slice rx_j1_0.a ((([] : List Str) ++ l0.Stations).length) rx_j1_0.cap, .slice rx_j1_1.a ((([] : List Str) ++ l0.Points).length) rx_j1_1.cap, .slice rx_j1_2.a ((([] : List Section) ++ l0.Sections).length) rx_j1_2.cap, .slice rx_j1_3.a ((([] : List Link) ++ l0.Links).length) rx_j1_3.cap]] 8 ?_
                              refine az_ev 0 rfl (ev_field_addr 2) ?_
                              refine az_ev 1 rfl (ev_load_own (b := bx_j1)) ?_
                              refine az_ev 2 rfl ev_move ?_
                              refine az_ev 3 rfl ev_nilcheck ?_
                              refine az_one 4 rfl (st_ev (ev_lds (m := 5) (i := y4) (xs := (([] : List Section) ++ l0.Sections)) (y := x6) (l := [.string x6.Name.ba, .int .i64 x6.Length, .int .i64 x6.Limit, .int .i64 x6.Grade, .int .i64 x6.Station]) 0 (Kn.trow (e := 57) (r := rx_j1_2) (by repeat (first | exact Has.head | apply Has.tail))) (fun _ => hx7)) ⟨fun w hm => hm.sub (by repeat (first | exact List.Sublist.refl _ | apply List.Sublist.cons_cons | apply List.Sublist.cons)), ?_⟩)
                              refine az_one 5 rfl (st_bslice (α := Section) 57 (fun _ => ()) ([x6] : List Section) (OkL.flat (fun _ _ _ _ => trivial)) (fun r134 => ⟨fun w hm => hm.sub (by repeat (first | exact List.Sublist.refl _ | apply List.Sublist.cons_cons | apply List.Sublist.cons)), ?_⟩))
                              obtain ⟨hb136, hM⟩ := chk_some hM
                              refine az_one 6 rfl (st_append (r := rx_j1_2) (r2 := r134) (by intro r'; repeat (first | exact Upd.head | apply Upd.tail)) (Kn.trow (e := 57) (r := r134) (by repeat (first | exact Has.head | apply Has.tail))) (OkL.flat (fun _ _ _ _ => trivial)) (of_decide_eq_true hb136) (fun r135 => ⟨fun w hm => hm.sub (by repeat (first | exact List.Sublist.refl _ | apply List.Sublist.cons_cons | apply List.Sublist.cons)), ?_⟩))
                              refine az_ev 7 rfl (ev_field_addr 2) ?_
                              refine az_last rfl (st_store_own (b := bx_j1) (l' := [.slice rx_j1_0.a ((([] : List Str) ++ l0.Stations).length) rx_j1_0.cap, .slice rx_j1_1.a ((([] : List Str) ++ l0.Points).length) rx_j1_1.cap, .slice r135.a (((([] : List Section) ++ l0.Sections) ++ ([x6] : List Section)).length) r135.cap, .slice rx_j1_3.a ((([] : List Link) ++ l0.Links).length) rx_j1_3.cap]) (k := ?_))
                              refine az_done (hJ2 (((([] : List Str) ++ l0.Stations), (([] : List Str) ++ l0.Points), ((([] : List Section) ++ l0.Sections) ++ ([x6] : List Section)), (([] : List Link) ++ l0.Links)), (rx_j1_0, rx_j1_1, r135, rx_j1_3)) _ _ hM ⟨rfl, rfl, trivial⟩ (fun w hm => hm.reord))
      ·
        clear hM
        intro g hM
        obtain ⟨⟨lx_j2_0, lx_j2_1, lx_j2_2, lx_j2_3⟩, ⟨rx_j2_0, rx_j2_1, rx_j2_2, rx_j2_3⟩⟩ := g
        dsimp only at hM ⊢
        dsimp only [keep_Other_k2] at hM
        refine cw_seq fun K6 hK6 => ?_
        refine cw_region ?_
        refine ow_ev (ev_load_all (b := bx_j1)) ?_
        refine ow_cons (st_store_all (b := b2) (vs := [.slice rx_j2_0.a lx_j2_0.length rx_j2_0.cap, .slice rx_j2_1.a lx_j2_1.length rx_j2_1.cap, .slice rx_j2_2.a lx_j2_2.length rx_j2_2.cap, .slice rx_j2_3.a lx_j2_3.length rx_j2_3.cap]) (k := ?_))
        refine ow_nil (hK6 _ _ ?_); clear hK6
        obtain rfl := some_inj hM
        refine cw_ret (kw_retc1 (fun w hm => post_of (rx_j2_0, rx_j2_1, rx_j2_2, rx_j2_3) hm rfl))

end Go.Proofs.YtohhihdjdelckaaDoor

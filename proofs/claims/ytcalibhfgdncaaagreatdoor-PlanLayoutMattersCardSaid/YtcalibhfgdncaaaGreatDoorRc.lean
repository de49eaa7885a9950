/- Models of functions, and that the code computes them. -/
import Derived.Test.YtcalibhfgdncaaaGreatDoorRa
import Derived.Test.YtcalibhfgdncaaaGreatDoorRb
namespace Go.Proofs.YtcalibhfgdncaaaGreatDoor
open Go.Dc Go.RowKit
set_option maxRecDepth 10000
set_option linter.unusedVariables false
def ref1_Parse_k1 (ll_1_0 : List Str) (ll_1_1 : List Str) (ll_1_2 : List Section) (ll_1_3 : List Link) : Unit → Option (Layout × Int × Int) := fun _ =>
  (ref1_Check_m (Layout.mk ll_1_0 ll_1_1 ll_1_2 ll_1_3)).bind fun y35 =>
  if decide (y35 ≠ 0) then
    (some ((Layout.mk ([] : List Str) ([] : List Str) ([] : List Section) ([] : List Link)), 0, y35))
  else
    (some ((Layout.mk ll_1_0 ll_1_1 ll_1_2 ll_1_3), 0, 0))
def ref1_Parse_b1 (y2 : (List (List Word)) × Int × Int) (cont1 : ((List Str) × (List Str) × (List Section) × (List Link) × Nat) → Option (Layout × Int × Int)) : ((List Str) × (List Str) × (List Section) × (List Link) × Nat) → Option (Layout × Int × Int) := fun (ll_1_0, ll_1_1, ll_1_2, ll_1_3, i_1) =>
  if decide ((i_1 : Int) < (y2.1.length : Int)) then
    ((idx y2.1 (i_1 : Int)).bind fun x20 =>
    (ref1_declare_m (Layout.mk ll_1_0 ll_1_1 ll_1_2 ll_1_3) x20).bind fun y22 =>
    if decide (y22.1 ≠ 0) then
      ((idx y2.1 (i_1 : Int)).bind fun x26 =>
      (idx x26 0).bind fun x28 =>
      some ((Layout.mk ([] : List Str) ([] : List Str) ([] : List Section) ([] : List Link)), x28.Line, y22.1))
    else
      (chk (i64b ((i_1 : Int) + 1)) <|
      cont1 (y22.2.1, y22.2.2.1, y22.2.2.2.1, y22.2.2.2.2, i_1 + 1)))
  else
    (ref1_Parse_k1 ll_1_0 ll_1_1 ll_1_2 ll_1_3 ())
def ref1_Parse_m (src0 : Str) : Option (Layout × Int × Int) :=
  (ref1_Lines_m src0).bind fun y2 =>
  if decide (y2.2.2 ≠ 0) then
    (some ((Layout.mk ([] : List Str) ([] : List Str) ([] : List Section) ([] : List Link)), y2.2.1, y2.2.2))
  else
    (iter (ref1_Parse_b1 y2) FUEL (([] : List Str), ([] : List Str), ([] : List Section), ([] : List Link), 0))
theorem ref1_Parse_spec (S : Soup) (w : World) (src0 : Str) (y : Layout × Int × Int) (hM : ref1_Parse_m src0 = some y) (hS : ∀ k, S k → k < w.heap.size)  :
    Calls Tryz.prog 24 #[.string src0.ba] w (Post (β := (GoRep.R Layout)) S [] (fun g => .tuple #[.agg #[.slice g.1.a y.1.Stations.length g.1.cap, .slice g.2.1.a y.1.Points.length g.2.1.cap, .slice g.2.2.1.a y.1.Sections.length g.2.2.1.cap, .slice g.2.2.2.a y.1.Links.length g.2.2.2.cap], .int .i64 y.2.1, .int .i64 y.2.2]) (fun g => [trow 9 g.1 y.1.Stations, trow 9 g.2.1 y.1.Points, trow 81 g.2.2.1 y.1.Sections, trow 183 g.2.2.2 y.1.Links]) w) := by
  refine calls_cw (args := [_]) Tryz.func24 rfl ((pre_nil hS).start) rfl ?_
  unfold ref1_Parse_m at hM
  refine cw_seq fun K1 hK1 => ?_
  refine cw_region ?_
  refine ow_cons (st_alloc rfl (k := fun b1 => ?_))
  refine ow_ev ev_assign ?_
  refine ow_ev ev_assign ?_
  refine ow_nil (hK1 _ _ ?_); clear hK1
  refine cw_seq fun K2 hK2 => ?_
  refine cw_region ?_
  refine ow_ev ev_move ?_
  obtain ⟨y2, hy3, hM⟩ := bind_some hM
  refine ow_cons (st_callS SelL.nil (fun S w hs hP => ref1_Lines_spec _ w src0 y2 hy3 hs.lt )  (fun r4 => ?_))
  dsimp only [List.cons_append, List.nil_append]
  refine ow_ev ev_move ?_
  refine ow_ev (ev_extract (vs := [.slice r4.a y2.1.length r4.cap, .int .i64 y2.2.1, .int .i64 y2.2.2])) ?_
  refine ow_ev (ev_extract (vs := [.slice r4.a y2.1.length r4.cap, .int .i64 y2.2.1, .int .i64 y2.2.2])) ?_
  refine ow_ev (ev_extract (vs := [.slice r4.a y2.1.length r4.cap, .int .i64 y2.2.1, .int .i64 y2.2.2])) ?_
  refine ow_ev ev_assign ?_
  refine ow_ev ev_assign ?_
  refine ow_ev ev_assign ?_
  refine ow_nil (hK2 _ _ ?_); clear hK2
  refine cw_seq fun K3 hK3 => ?_
  refine cw_seq fun K4 hK4 => ?_
  refine cw_region ?_
  refine ow_ev ev_move ?_
  refine ow_ev ev_neq ?_
  refine ow_nil (hK4 _ _ ?_); clear hK4
  refine cw_cond rfl (fun hc5 => ?_) (fun hc5 => ?_)
  ·
    replace hM := (ite_t hc5).symm.trans hM
    refine cw_seq fun K5 hK5 => ?_
    refine cw_region ?_
    refine ow_ev (ev_build [.slice none 0 0, .slice none 0 0, .slice none 0 0, .slice none 0 0]) ?_
    refine ow_ev ev_move ?_
    refine ow_ev ev_move ?_
    refine ow_cons (st_store_all (b := b1) (vs := [.slice none 0 0, .slice none 0 0, .slice none 0 0, .slice none 0 0]) (k := ?_))
    refine ow_ev ev_assign ?_
    refine ow_ev ev_assign ?_
    refine ow_nil (hK5 _ _ ?_); clear hK5
    refine cw_imp (fun w hm => hm.row_nil (α := Str) 9 (fun _ => ())) ?_
    refine cw_imp (fun w hm => hm.row_nil (α := Str) 9 (fun _ => ())) ?_
    refine cw_imp (fun w hm => hm.row_nil (α := Section) 81 (fun _ => ())) ?_
    refine cw_imp (fun w hm => hm.row_nil (α := Link) 183 (fun _ => ())) ?_
    obtain rfl := some_inj hM
    refine cw_ret (kw_retc3 (fun w hm => post_of ((⟨none, 0, (fun _ => ())⟩ : SR (GoRep.R Str) ), (⟨none, 0, (fun _ => ())⟩ : SR (GoRep.R Str)  ), (⟨none, 0, (fun _ => ())⟩ : SR (GoRep.R Section)   ), (⟨none, 0, (fun _ => ())⟩ : SR (GoRep.R Link)    )) hm rfl))
  ·
    replace hM := (ite_f hc5).symm.trans hM
    refine cw_skip (hK3 _ _ ?_); clear hK3
    refine cw_seq fun K6 hK6 => ?_
    refine cw_region ?_
    refine ow_cons (st_alloc rfl (k := fun b10 => ?_))
    refine ow_nil (hK6 _ _ ?_); clear hK6
    refine cw_seq fun K7 hK7 => ?_
    refine cw_seq fun K8 hK8 => ?_
    refine cw_region ?_
    refine ow_ev ev_assign ?_
    refine ow_nil (hK8 _ _ ?_); clear hK8
    refine cw_block ?_
    refine cw_imp (fun w hm => hm.row_nil (α := Str) 9 (fun _ => ())) ?_
    refine cw_imp (fun w hm => hm.row_nil (α := Str) 9 (fun _ => ())) ?_
    refine cw_imp (fun w hm => hm.row_nil (α := Section) 81 (fun _ => ())) ?_
    refine cw_imp (fun w hm => hm.row_nil (α := Link) 183 (fun _ => ())) ?_
    refine cw_imp (fun w hm => hm.row_nil (α := Str) 9 (fun _ => ())) ?_
    refine cw_imp (fun w hm => hm.row_nil (α := Str) 9 (fun _ => ())) ?_
    refine cw_imp (fun w hm => hm.row_nil (α := Section) 81 (fun _ => ())) ?_
    refine cw_imp (fun w hm => hm.row_nil (α := Link) 183 (fun _ => ())) ?_
    refine cw_loop (γ := Nat × ((List Str) × (List Str) × (List Section) × (List Link) × Nat) × ((SR (GoRep.R Str)) × (SR (GoRep.R Str)) × (SR (GoRep.R Section)) × (SR (GoRep.R Link)))) (env := fun (_, (ll_1_0, ll_1_1, ll_1_2, ll_1_3, i_1), (rl_1_0, rl_1_1, rl_1_2, rl_1_3)) => [(2, .v (.pointer (some ⟨b1, 0, none⟩))), (5, .v (.slice r4.a y2.1.length r4.cap)), (8, .v (.pointer (some ⟨b10, 0, none⟩))), (9, .v (.int .i64 (i_1 : Int)))]) (mem := fun (_, (ll_1_0, ll_1_1, ll_1_2, ll_1_3, i_1), (rl_1_0, rl_1_1, rl_1_2, rl_1_3)) => [trow 9 (⟨none, 0, (fun _ => ())⟩ : SR (GoRep.R Str)         ) ([] : List Str), trow 9 (⟨none, 0, (fun _ => ())⟩ : SR (GoRep.R Str)          ) ([] : List Str), trow 81 (⟨none, 0, (fun _ => ())⟩ : SR (GoRep.R Section)           ) ([] : List Section), trow 183 (⟨none, 0, (fun _ => ())⟩ : SR (GoRep.R Link)            ) ([] : List Link), own b1 26 [.slice (⟨none, 0, (fun _ => ())⟩ : SR (GoRep.R Str)         ).a (([] : List Str).length) (⟨none, 0, (fun _ => ())⟩ : SR (GoRep.R Str)         ).cap, .slice (⟨none, 0, (fun _ => ())⟩ : SR (GoRep.R Str)          ).a (([] : List Str).length) (⟨none, 0, (fun _ => ())⟩ : SR (GoRep.R Str)          ).cap, .slice (⟨none, 0, (fun _ => ())⟩ : SR (GoRep.R Section)           ).a (([] : List Section).length) (⟨none, 0, (fun _ => ())⟩ : SR (GoRep.R Section)           ).cap, .slice (⟨none, 0, (fun _ => ())⟩ : SR (GoRep.R Link)            ).a (([] : List Link).length) (⟨none, 0, (fun _ => ())⟩ : SR (GoRep.R Link)            ).cap], trow 105 r4 y2.1, trow 9 rl_1_0 ll_1_0, trow 9 rl_1_1 ll_1_1, trow 81 rl_1_2 ll_1_2, trow 183 rl_1_3 ll_1_3, own b10 26 [.slice rl_1_0.a ll_1_0.length rl_1_0.cap, .slice rl_1_1.a ll_1_1.length rl_1_1.cap, .slice rl_1_2.a ll_1_2.length rl_1_2.cap, .slice rl_1_3.a ll_1_3.length rl_1_3.cap]]) (R := fun g => iter (ref1_Parse_b1 y2) g.1 g.2.1 = some y) (μ := fun g => g.1) (FUEL, (([] : List Str), ([] : List Str), ([] : List Section), ([] : List Link), 0), ((⟨none, 0, (fun _ => ())⟩ : SR (GoRep.R Str)     ), (⟨none, 0, (fun _ => ())⟩ : SR (GoRep.R Str)      ), (⟨none, 0, (fun _ => ())⟩ : SR (GoRep.R Section)       ), (⟨none, 0, (fun _ => ())⟩ : SR (GoRep.R Link)        ))) hM ⟨rfl, rfl, rfl, rfl, trivial⟩ (fun w hm => hm.reord) ?_
    clear hM
    intro g hM KL1 hL1
    obtain ⟨nn1, ⟨ll_1_0, ll_1_1, ll_1_2, ll_1_3, i_1⟩, ⟨rl_1_0, rl_1_1, rl_1_2, rl_1_3⟩⟩ := g
    dsimp only at hM ⊢
    obtain ⟨nn1, cont1, rfl, hcont1, hM⟩ := iter_open' hM
    dsimp only [ref1_Parse_b1] at hM
    refine cw_seq fun K9 hK9 => ?_
    refine cw_seq fun K10 hK10 => ?_
    refine cw_region ?_
    refine ow_ev ev_move ?_
    refine ow_ev ev_move ?_
    refine ow_ev ev_len ?_
    refine ow_ev ev_lss ?_
    refine ow_nil (hK10 _ _ ?_); clear hK10
    refine cw_cond rfl (fun hc19 => ?_) (fun hc19 => ?_)
    ·
      replace hM := (ite_t hc19).symm.trans hM
      refine cw_skip (hK9 _ _ ?_); clear hK9
      refine cw_seq fun K11 hK11 => ?_
      refine cw_block ?_
      refine cw_seq fun K12 hK12 => ?_
      refine cw_region ?_
      refine ow_ev ev_move ?_
      refine ow_ev ev_move ?_
      obtain ⟨x20, hx21, hM⟩ := bind_some hM
      refine ow_ev (ev_idx (xs := y2.1) 1 (Kn.trow (e := 105) (r := r4) (by repeat (first | exact Has.head | apply Has.tail))) (fun hg => let h := idx_some hx21; ⟨h.1, h.2.1⟩)) ?_
      refine ow_ev (ev_ld (i := (i_1 : Int)) (xs := y2.1) (y := x20) 0 (Kn.trow (e := 105) (r := r4) (by repeat (first | exact Has.head | apply Has.tail))) (fun _ => hx21)) ?_
      obtain ⟨y22, hy23, hM⟩ := bind_some hM
      refine ow_cons (st_callF (by repeat (first | exact SelL.nil | (apply SelL.cons; · (repeat (first | exact Sel.head | apply Sel.tail))))) (fun S w hs hP => ref1_declare_spec _ w b10 (Layout.mk ll_1_0 ll_1_1 ll_1_2 ll_1_3) (rl_1_0, rl_1_1, rl_1_2, rl_1_3) x20 (r4.es (i_1 : Int).toNat) y22 hy23 hP (Kn.lend ((Sk.row (e := 105) (r := r4) (by repeat (first | exact Has.head | apply Has.tail)) hx21)).kn hs)) (by intro r c hc; simp only [List.mem_cons, List.not_mem_nil, or_false] at hc; rcases hc with rfl | rfl | rfl | rfl | rfl <;> first | exact flatC_own | exact flatC_trow (fun _ _ _ _ => trivial)) (fun r24 => ?_))
      dsimp only [List.cons_append, List.nil_append]
      refine ow_ev ev_assign ?_
      refine ow_nil (hK12 _ _ ?_); clear hK12
      refine cw_seq fun K13 hK13 => ?_
      refine cw_region ?_
      refine ow_ev ev_move ?_
      refine ow_ev ev_neq ?_
      refine ow_nil (hK13 _ _ ?_); clear hK13
      refine cw_cond rfl (fun hc25 => ?_) (fun hc25 => ?_)
      ·
        replace hM := (ite_t hc25).symm.trans hM
        refine cw_seq fun K14 hK14 => ?_
        refine cw_region_any [own b10 26 [.slice r24.1.a y22.2.1.length r24.1.cap, .slice r24.2.1.a y22.2.2.1.length r24.2.1.cap, .slice r24.2.2.1.a y22.2.2.2.1.length r24.2.2.1.cap, .slice r24.2.2.2.a y22.2.2.2.2.length r24.2.2.2.cap], trow 9 r24.1 y22.2.1, trow 9 r24.2.1 y22.2.2.1, trow 81 r24.2.2.1 y22.2.2.2.1, trow 183 r24.2.2.2 y22.2.2.2.2, trow 9 (⟨none, 0, (fun _ => ())⟩ : SR (GoRep.R Str)         ) ([] : List Str), trow 9 (⟨none, 0, (fun _ => ())⟩ : SR (GoRep.R Str)          ) ([] : List Str), trow 81 (⟨none, 0, (fun _ => ())⟩ : SR (GoRep.R Section)           ) ([] : List Section), trow 183 (⟨none, 0, (fun _ => ())⟩ : SR (GoRep.R Link)            ) ([] : List Link), trow 105 r4 y2.1] (by repeat (first | exact List.Sublist.refl _ | apply List.Sublist.cons_cons | apply List.Sublist.cons)) ?_
        refine aw_ev 0 rfl (ev_build [.slice none 0 0, .slice none 0 0, .slice none 0 0, .slice none 0 0]) ?_
        refine aw_ev 1 rfl ev_move ?_
        refine aw_ev 2 rfl ev_move ?_
        obtain ⟨x26, hx27, hM⟩ := bind_some hM
        refine aw_ev 3 rfl (ev_idx (xs := y2.1) 1 (Kn.trow (e := 105) (r := r4) (by repeat (first | exact Has.head | apply Has.tail))) (fun hg => let h := idx_some hx27; ⟨h.1, h.2.1⟩)) ?_
        refine aw_ev 4 rfl (ev_ld (i := (i_1 : Int)) (xs := y2.1) (y := x26) 0 (Kn.trow (e := 105) (r := r4) (by repeat (first | exact Has.head | apply Has.tail))) (fun _ => hx27)) ?_
        obtain ⟨x28, hx29, hM⟩ := bind_some hM
        refine aw_ev 5 rfl (ev_idx (xs := x26) 3 ((Sk.row (e := 105) (r := r4) (by repeat (first | exact Has.head | apply Has.tail)) hx27)).kn (fun hg => let h := idx_some hx29; ⟨h.1, h.2.1⟩)) ?_
        refine aw_ev 6 rfl (ev_field_addr 1) ?_
        refine aw_ev 7 rfl (ev_ld (i := 0) (xs := x26) (y := x28) 1 ((Sk.row (e := 105) (r := r4) (by repeat (first | exact Has.head | apply Has.tail)) hx27)).kn (fun _ => hx29)) ?_
        refine aw_ev 8 rfl ev_move ?_
        refine aw_one 9 rfl (st_store_all (b := b1) (vs := [.slice none 0 0, .slice none 0 0, .slice none 0 0, .slice none 0 0]) (k := ⟨fun w hm => hm.sub (by repeat (first | exact List.Sublist.refl _ | apply List.Sublist.cons_cons | apply List.Sublist.cons)), ?_⟩))
        refine aw_ev 10 rfl ev_assign ?_
        refine aw_ev 11 rfl ev_assign ?_
        refine aw_done (hK14 _ _ ?_); clear hK14
        refine cw_imp (fun w hm => hm.row_nil (α := Str) 9 (fun _ => ())) ?_
        refine cw_imp (fun w hm => hm.row_nil (α := Str) 9 (fun _ => ())) ?_
        refine cw_imp (fun w hm => hm.row_nil (α := Section) 81 (fun _ => ())) ?_
        refine cw_imp (fun w hm => hm.row_nil (α := Link) 183 (fun _ => ())) ?_
        obtain rfl := some_inj hM
        refine cw_ret (kw_retc3 (fun w hm => post_of ((⟨none, 0, (fun _ => ())⟩ : SR (GoRep.R Str)                                             ), (⟨none, 0, (fun _ => ())⟩ : SR (GoRep.R Str)                                              ), (⟨none, 0, (fun _ => ())⟩ : SR (GoRep.R Section)                                               ), (⟨none, 0, (fun _ => ())⟩ : SR (GoRep.R Link)                                                )) hm rfl))
      ·
        replace hM := (ite_f hc25).symm.trans hM
        refine cw_skip (hK11 _ _ ?_); clear hK11
        refine cw_region ?_
        refine ow_ev ev_move ?_
        obtain ⟨hI34, hM⟩ := chk_some hM
        refine ow_ev (ev_add (hr := fun hg => i64b_I64 hI34)) ?_
        refine ow_ev ev_assign ?_
        refine ow_nil (hL1 (nn1, (y22.2.1, y22.2.2.1, y22.2.2.2.1, y22.2.2.2.2, i_1 + 1), (r24.1, r24.2.1, r24.2.2.1, r24.2.2.2)) _ _ (eqc hcont1 hM) (Nat.lt_succ_self _) ⟨rfl, rfl, rfl, rfl, trivial⟩ (fun w hm => hm.reord))
    ·
      replace hM := (ite_f hc19).symm.trans hM
      refine cw_exit (hK7 _ _ ?_); clear hK7
      dsimp only [ref1_Parse_k1] at hM
      refine cw_seq fun K15 hK15 => ?_
      refine cw_seq fun K16 hK16 => ?_
      refine cw_region ?_
      refine ow_ev (ev_load_all (b := b10)) ?_
      obtain ⟨y35, hy36, hM⟩ := bind_some hM
      refine ow_cons (st_callv (fun w hm => let ⟨S, hs⟩ := hm; ref1_Check_spec _ w (Layout.mk ll_1_0 ll_1_1 ll_1_2 ll_1_3) (rl_1_0, rl_1_1, rl_1_2, rl_1_3) y35 hy36 (lend_lt hs) ⟨(Kn.lend (Kn.trow (e := 9) (r := rl_1_0) (by repeat (first | exact Has.head | apply Has.tail))) hs), (Kn.lend (Kn.trow (e := 9) (r := rl_1_1) (by repeat (first | exact Has.head | apply Has.tail))) hs), (Kn.lend (Kn.trow (e := 81) (r := rl_1_2) (by repeat (first | exact Has.head | apply Has.tail))) hs), (Kn.lend (Kn.trow (e := 183) (r := rl_1_3) (by repeat (first | exact Has.head | apply Has.tail))) hs)⟩) ?_)
      refine ow_ev ev_assign ?_
      refine ow_nil (hK16 _ _ ?_); clear hK16
      refine cw_seq fun K17 hK17 => ?_
      refine cw_region ?_
      refine ow_ev ev_move ?_
      refine ow_ev ev_neq ?_
      refine ow_nil (hK17 _ _ ?_); clear hK17
      refine cw_cond rfl (fun hc37 => ?_) (fun hc37 => ?_)
      ·
        replace hM := (ite_t hc37).symm.trans hM
        refine cw_seq fun K18 hK18 => ?_
        refine cw_region ?_
        refine ow_ev (ev_build [.slice none 0 0, .slice none 0 0, .slice none 0 0, .slice none 0 0]) ?_
        refine ow_ev ev_move ?_
        refine ow_cons (st_store_all (b := b1) (vs := [.slice none 0 0, .slice none 0 0, .slice none 0 0, .slice none 0 0]) (k := ?_))
        refine ow_ev ev_assign ?_
        refine ow_ev ev_assign ?_
        refine ow_nil (hK18 _ _ ?_); clear hK18
        refine cw_imp (fun w hm => hm.row_nil (α := Str) 9 (fun _ => ())) ?_
        refine cw_imp (fun w hm => hm.row_nil (α := Str) 9 (fun _ => ())) ?_
        refine cw_imp (fun w hm => hm.row_nil (α := Section) 81 (fun _ => ())) ?_
        refine cw_imp (fun w hm => hm.row_nil (α := Link) 183 (fun _ => ())) ?_
        obtain rfl := some_inj hM
        refine cw_ret (kw_retc3 (fun w hm => post_of ((⟨none, 0, (fun _ => ())⟩ : SR (GoRep.R Str)                                                 ), (⟨none, 0, (fun _ => ())⟩ : SR (GoRep.R Str)                                                  ), (⟨none, 0, (fun _ => ())⟩ : SR (GoRep.R Section)                                                   ), (⟨none, 0, (fun _ => ())⟩ : SR (GoRep.R Link)                                                    )) hm rfl))
      ·
        replace hM := (ite_f hc37).symm.trans hM
        refine cw_skip (hK15 _ _ ?_); clear hK15
        refine cw_seq fun K19 hK19 => ?_
        refine cw_region ?_
        refine ow_ev (ev_load_all (b := b10)) ?_
        refine ow_cons (st_store_all (b := b1) (vs := [.slice rl_1_0.a ll_1_0.length rl_1_0.cap, .slice rl_1_1.a ll_1_1.length rl_1_1.cap, .slice rl_1_2.a ll_1_2.length rl_1_2.cap, .slice rl_1_3.a ll_1_3.length rl_1_3.cap]) (k := ?_))
        refine ow_ev ev_assign ?_
        refine ow_ev ev_assign ?_
        refine ow_nil (hK19 _ _ ?_); clear hK19
        obtain rfl := some_inj hM
        refine cw_ret (kw_retc3 (fun w hm => post_of (rl_1_0, rl_1_1, rl_1_2, rl_1_3) hm rfl))

def law10_example_m  : Option Layout :=
  (ref1_Parse_m (⟨[115, 116, 97, 116, 105, 111, 110, 32, 78, 111, 114, 116, 104, 10, 112, 111, 105, 110, 116, 32, 87, 10, 115, 101, 99, 116, 105, 111, 110, 32, 84, 32, 52, 48, 32, 51, 51, 48, 48, 48, 32, 48, 10, 115, 101, 99, 116, 105, 111, 110, 32, 78, 49, 32, 50, 48, 32, 50, 48, 48, 48, 48, 32, 48, 32, 97, 116, 32, 78, 111, 114, 116, 104, 10, 115, 101, 99, 116, 105, 111, 110, 32, 78, 50, 32, 50, 48, 32, 50, 48, 48, 48, 48, 32, 48, 32, 97, 116, 32, 78, 111, 114, 116, 104, 10, 108, 105, 110, 107, 32, 84, 32, 66, 32, 78, 49, 32, 65, 32, 87, 32, 48, 10, 108, 105, 110, 107, 32, 84, 32, 66, 32, 78, 50, 32, 65, 32, 87, 32, 49, 10]⟩ : Str)).bind fun y2 =>
  some y2.1
theorem law10_example_spec (S : Soup) (w : World)  (y : Layout) (hM : law10_example_m  = some y) (hS : ∀ k, S k → k < w.heap.size)  :
    Calls Tryz.prog 11 #[] w (Post (β := (GoRep.R Layout)) S [] (fun g => .agg #[.slice g.1.a y.Stations.length g.1.cap, .slice g.2.1.a y.Points.length g.2.1.cap, .slice g.2.2.1.a y.Sections.length g.2.2.1.cap, .slice g.2.2.2.a y.Links.length g.2.2.2.cap]) (fun g => [trow 9 g.1 y.Stations, trow 9 g.2.1 y.Points, trow 81 g.2.2.1 y.Sections, trow 183 g.2.2.2 y.Links]) w) := by
  refine calls_cw (args := []) Tryz.func11 rfl ((pre_nil hS).start) rfl ?_
  unfold law10_example_m at hM
  refine cw_seq fun K1 hK1 => ?_
  refine cw_region ?_
  refine ow_cons (st_alloc rfl (k := fun b1 => ?_))
  refine ow_nil (hK1 _ _ ?_); clear hK1
  refine cw_seq fun K2 hK2 => ?_
  refine cw_region ?_
  obtain ⟨y2, hy3, hM⟩ := bind_some hM
  refine ow_cons (st_callF SelL.nil (fun S w hs hP => ref1_Parse_spec _ w (⟨[115, 116, 97, 116, 105, 111, 110, 32, 78, 111, 114, 116, 104, 10, 112, 111, 105, 110, 116, 32, 87, 10, 115, 101, 99, 116, 105, 111, 110, 32, 84, 32, 52, 48, 32, 51, 51, 48, 48, 48, 32, 48, 10, 115, 101, 99, 116, 105, 111, 110, 32, 78, 49, 32, 50, 48, 32, 50, 48, 48, 48, 48, 32, 48, 32, 97, 116, 32, 78, 111, 114, 116, 104, 10, 115, 101, 99, 116, 105, 111, 110, 32, 78, 50, 32, 50, 48, 32, 50, 48, 48, 48, 48, 32, 48, 32, 97, 116, 32, 78, 111, 114, 116, 104, 10, 108, 105, 110, 107, 32, 84, 32, 66, 32, 78, 49, 32, 65, 32, 87, 32, 48, 10, 108, 105, 110, 107, 32, 84, 32, 66, 32, 78, 50, 32, 65, 32, 87, 32, 49, 10]⟩ : Str) y2 hy3 (lend_lt hs) ) (by intro r c hc; simp only [List.mem_cons, List.not_mem_nil, or_false] at hc; rcases hc with rfl | rfl | rfl | rfl <;> first | exact flatC_own | exact flatC_trow (fun _ _ _ _ => trivial)) (fun r4 => ?_))
  dsimp only [List.cons_append, List.nil_append]
  refine ow_ev ev_move ?_
  refine ow_ev (ev_extract (vs := [.agg #[.slice r4.1.a y2.1.Stations.length r4.1.cap, .slice r4.2.1.a y2.1.Points.length r4.2.1.cap, .slice r4.2.2.1.a y2.1.Sections.length r4.2.2.1.cap, .slice r4.2.2.2.a y2.1.Links.length r4.2.2.2.cap], .int .i64 y2.2.1, .int .i64 y2.2.2])) ?_
  refine ow_ev (ev_extract (vs := [.agg #[.slice r4.1.a y2.1.Stations.length r4.1.cap, .slice r4.2.1.a y2.1.Points.length r4.2.1.cap, .slice r4.2.2.1.a y2.1.Sections.length r4.2.2.1.cap, .slice r4.2.2.2.a y2.1.Links.length r4.2.2.2.cap], .int .i64 y2.2.1, .int .i64 y2.2.2])) ?_
  refine ow_ev (ev_extract (vs := [.agg #[.slice r4.1.a y2.1.Stations.length r4.1.cap, .slice r4.2.1.a y2.1.Points.length r4.2.1.cap, .slice r4.2.2.1.a y2.1.Sections.length r4.2.2.1.cap, .slice r4.2.2.2.a y2.1.Links.length r4.2.2.2.cap], .int .i64 y2.2.1, .int .i64 y2.2.2])) ?_
  refine ow_cons (st_alloc rfl (k := fun b5 => ?_))
  refine ow_cons (st_store_all (b := b5) (vs := [.slice r4.1.a y2.1.Stations.length r4.1.cap, .slice r4.2.1.a y2.1.Points.length r4.2.1.cap, .slice r4.2.2.1.a y2.1.Sections.length r4.2.2.1.cap, .slice r4.2.2.2.a y2.1.Links.length r4.2.2.2.cap]) (k := ?_))
  refine ow_ev ev_assign ?_
  refine ow_ev ev_assign ?_
  refine ow_nil (hK2 _ _ ?_); clear hK2
  refine cw_seq fun K3 hK3 => ?_
  refine cw_region ?_
  refine ow_ev (ev_load_all (b := b5)) ?_
  refine ow_cons (st_store_all (b := b1) (vs := [.slice r4.1.a y2.1.Stations.length r4.1.cap, .slice r4.2.1.a y2.1.Points.length r4.2.1.cap, .slice r4.2.2.1.a y2.1.Sections.length r4.2.2.1.cap, .slice r4.2.2.2.a y2.1.Links.length r4.2.2.2.cap]) (k := ?_))
  refine ow_nil (hK3 _ _ ?_); clear hK3
  obtain rfl := some_inj hM
  refine cw_ret (kw_retc1 (fun w hm => post_of r4 hm rfl))

end Go.Proofs.YtcalibhfgdncaaaGreatDoor

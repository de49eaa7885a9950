/- Models of functions, and that the code computes them. -/
import Derived.Test.YtcalibhfgdncaaaGreatDoorPs
import Derived.Test.YtcalibhfgdncaaaGreatDoorRc
namespace Go.Proofs.YtcalibhfgdncaaaGreatDoor
open Go.Dc Go.RowKit
set_option maxRecDepth 10000
set_option linter.unusedVariables false
def law10_awake_m  : Option Bool :=
  (law10_example_m).bind fun y1 =>
  (plan_Check_m y1 (Plan.mk 0 ([] : List Stock) ([] : List Route) ([] : List Line) ([] : List Change) ([] : List Turn) ([] : List Sync) ([] : List Demand))).bind fun y11 =>
  some (decide (y11 = 4))
theorem law10_awake_spec (S : Soup) (w : World)  (y : Bool) (hM : law10_awake_m  = some y) (hS : ∀ k, S k → k < w.heap.size)  :
    Calls Tryz.prog 9 #[] w (Ret w (.bool y)) := by
  refine calls_cw (args := []) Tryz.func9 rfl ((pre_nil hS).start) rfl ?_
  unfold law10_awake_m at hM
  refine cw_seq fun K1 hK1 => ?_
  refine cw_region ?_
  refine ow_ev ev_assign ?_
  refine ow_nil (hK1 _ _ ?_); clear hK1
  refine cw_seq fun K2 hK2 => ?_
  refine cw_region ?_
  obtain ⟨y1, hy2, hM⟩ := bind_some hM
  refine ow_cons (st_callF SelL.nil (fun S w hs hP => law10_example_spec _ w  y1 hy2 (lend_lt hs) ) (by intro r c hc; simp only [List.mem_cons, List.not_mem_nil, or_false] at hc; rcases hc with rfl | rfl | rfl | rfl <;> first | exact flatC_own | exact flatC_trow (fun _ _ _ _ => trivial)) (fun r3 => ?_))
  dsimp only [List.cons_append, List.nil_append]
  refine ow_ev (ev_build [.int .i64 0, .slice none 0 0, .slice none 0 0, .slice none 0 0, .slice none 0 0, .slice none 0 0, .slice none 0 0, .slice none 0 0]) ?_
  refine ow_imp (fun w hm => hm.row_nil (α := Stock) 71 (fun _ => ())) ?_
  refine ow_imp (fun w hm => hm.row_nil (α := Route) 90 (fun _ => (⟨none, 0, (fun _ => ())⟩ : SR (GoRep.R Step)))) ?_
  refine ow_imp (fun w hm => hm.row_nil (α := Line) 56 (fun _ => (⟨none, 0, (fun _ => ())⟩ : SR (GoRep.R Ride)))) ?_
  refine ow_imp (fun w hm => hm.row_nil (α := Change) 79 (fun _ => ())) ?_
  refine ow_imp (fun w hm => hm.row_nil (α := Turn) 94 (fun _ => ())) ?_
  refine ow_imp (fun w hm => hm.row_nil (α := Sync) 84 (fun _ => ())) ?_
  refine ow_imp (fun w hm => hm.row_nil (α := Demand) 86 (fun _ => ())) ?_
  obtain ⟨y11, hy12, hM⟩ := bind_some hM
  refine ow_cons (st_callv (fun w hm => let ⟨S, hs⟩ := hm; plan_Check_spec _ w y1 r3 (Plan.mk 0 ([] : List Stock) ([] : List Route) ([] : List Line) ([] : List Change) ([] : List Turn) ([] : List Sync) ([] : List Demand)) ((⟨none, 0, (fun _ => ())⟩ : SR (GoRep.R Stock) ), (⟨none, 0, (fun _ => (⟨none, 0, (fun _ => ())⟩ : SR (GoRep.R Step)))⟩ : SR (GoRep.R Route)  ), (⟨none, 0, (fun _ => (⟨none, 0, (fun _ => ())⟩ : SR (GoRep.R Ride)))⟩ : SR (GoRep.R Line)   ), (⟨none, 0, (fun _ => ())⟩ : SR (GoRep.R Change)    ), (⟨none, 0, (fun _ => ())⟩ : SR (GoRep.R Turn)     ), (⟨none, 0, (fun _ => ())⟩ : SR (GoRep.R Sync)      ), (⟨none, 0, (fun _ => ())⟩ : SR (GoRep.R Demand)       )) y11 hy12 (lend_lt hs) ⟨(Kn.lend (Kn.trow (e := 9) (r := r3.1) (by repeat (first | exact Has.head | apply Has.tail))) hs), (Kn.lend (Kn.trow (e := 9) (r := r3.2.1) (by repeat (first | exact Has.head | apply Has.tail))) hs), (Kn.lend (Kn.trow (e := 81) (r := r3.2.2.1) (by repeat (first | exact Has.head | apply Has.tail))) hs), (Kn.lend (Kn.trow (e := 183) (r := r3.2.2.2) (by repeat (first | exact Has.head | apply Has.tail))) hs)⟩ ⟨(Kn.lend (Kn.trow (e := 71) (r := (⟨none, 0, (fun _ => ())⟩ : SR (GoRep.R Stock) )) (by repeat (first | exact Has.head | apply Has.tail))) hs), (Kn.lend (Kn.trow (e := 90) (r := (⟨none, 0, (fun _ => (⟨none, 0, (fun _ => ())⟩ : SR (GoRep.R Step)))⟩ : SR (GoRep.R Route)  )) (by repeat (first | exact Has.head | apply Has.tail))) hs), (Kn.lend (Kn.trow (e := 56) (r := (⟨none, 0, (fun _ => (⟨none, 0, (fun _ => ())⟩ : SR (GoRep.R Ride)))⟩ : SR (GoRep.R Line)   )) (by repeat (first | exact Has.head | apply Has.tail))) hs), (Kn.lend (Kn.trow (e := 79) (r := (⟨none, 0, (fun _ => ())⟩ : SR (GoRep.R Change)    )) (by repeat (first | exact Has.head | apply Has.tail))) hs), (Kn.lend (Kn.trow (e := 94) (r := (⟨none, 0, (fun _ => ())⟩ : SR (GoRep.R Turn)     )) (by repeat (first | exact Has.head | apply Has.tail))) hs), (Kn.lend (Kn.trow (e := 84) (r := (⟨none, 0, (fun _ => ())⟩ : SR (GoRep.R Sync)      )) (by repeat (first | exact Has.head | apply Has.tail))) hs), (Kn.lend (Kn.trow (e := 86) (r := (⟨none, 0, (fun _ => ())⟩ : SR (GoRep.R Demand)       )) (by repeat (first | exact Has.head | apply Has.tail))) hs)⟩) ?_)
  refine ow_ev ev_eql ?_
  refine ow_ev ev_assign ?_
  refine ow_nil (hK2 _ _ ?_); clear hK2
  obtain rfl := some_inj hM
  refine cw_ret (kw_retc1 (fun w hm => ret_of hm rfl))

end Go.Proofs.YtcalibhfgdncaaaGreatDoor

/- Models of functions, and that the code computes them. -/
import Derived.Test.YtohhihdjdelckaaDoorTypes
set_option linter.all false
namespace Go.Proofs.YtohhihdjdelckaaDoor
open Go.Dc Go.RowKit
set_option maxRecDepth 10000
def words_class_k1 (c0 : Int) : Bool → Option Int := fun t3_j1 =>
  if t3_j1 then
    (some 1)
  else
    (if decide (c0 = 10) then
      (some 2)
    else
      (if decide (c0 = 35) then
        (some 3)
      else
        (if (decide (33 ≤ c0) && decide (c0 ≤ 126)) then
          (some 4)
        else
          (some 0))))
def words_class_m (c0 : Int) : Option Int :=
  if decide (c0 = 32) then
    (words_class_k1 c0 (decide (c0 = 32)))
  else
    (words_class_k1 c0 (decide (c0 = 9)))
theorem words_class_spec (S : Soup) (w : World) (c0 : Int) (y : Int) (hM : words_class_m c0 = some y) (hS : ∀ k, S k → k < w.heap.size)  :
    Calls Tryd.prog 88 #[.int .u8 c0] w (Ret w (.int .i64 y)) := by
  refine calls_cw (args := [_]) Tryd.func88 rfl ((pre_nil hS).start) rfl ?_
  unfold words_class_m at hM
  refine cw_seq fun K1 hK1 => ?_
  refine cw_region ?_
  refine ow_ev ev_assign ?_
  refine ow_nil (hK1 _ _ ?_); clear hK1
  refine cw_seq fun K2 hK2 => ?_
  refine cw_block ?_
  refine cw_cut (γ := Bool × Unit) (env := fun (t3_j1, _) => [(0, .v (.int .u8 c0)), (3, .v (.bool t3_j1))]) (mem := fun (t3_j1, _) => []) (R := fun g => words_class_k1 c0 g.1 = some y) ?_ ?_
  · intro KJ1 hJ1
    refine cw_seq fun K11 hK11 => ?_
    refine cw_region ?_
    refine ow_ev ev_move ?_
    refine ow_ev ev_eql ?_
    refine ow_ev ev_assign ?_
    refine ow_nil (hK11 _ _ ?_); clear hK11
    refine cw_cond rfl (fun hc5 => ?_) (fun hc5 => ?_)
    ·
      replace hM := (ite_t hc5).symm.trans hM
      refine cw_skip (hJ1 ((decide (c0 = 32)), ()) _ _ hM ⟨rfl, rfl, trivial⟩ (fun w hm => hm.reord))
    ·
      replace hM := (ite_f hc5).symm.trans hM
      refine cw_region ?_
      refine ow_ev ev_move ?_
      refine ow_ev ev_eql ?_
      refine ow_ev ev_assign ?_
      refine ow_nil (hJ1 ((decide (c0 = 9)), ()) _ _ hM ⟨rfl, rfl, trivial⟩ (fun w hm => hm.reord))
  ·
    clear hM
    intro g hM
    obtain ⟨t3_j1, ⟨⟩⟩ := g
    dsimp only at hM ⊢
    dsimp only [words_class_k1] at hM
    refine cw_cond rfl (fun hc1 => ?_) (fun hc1 => ?_)
    ·
      replace hM := (ite_t hc1).symm.trans hM
      refine cw_seq fun K3 hK3 => ?_
      refine cw_region ?_
      refine ow_ev ev_assign ?_
      refine ow_nil (hK3 _ _ ?_); clear hK3
      obtain rfl := some_inj hM
      refine cw_ret (kw_retc1 (fun w hm => ret_of hm rfl))
    ·
      replace hM := (ite_f hc1).symm.trans hM
      refine cw_seq fun K4 hK4 => ?_
      refine cw_region ?_
      refine ow_ev ev_move ?_
      refine ow_ev ev_eql ?_
      refine ow_ev ev_assign ?_
      refine ow_nil (hK4 _ _ ?_); clear hK4
      refine cw_cond rfl (fun hc2 => ?_) (fun hc2 => ?_)
      ·
        replace hM := (ite_t hc2).symm.trans hM
        refine cw_seq fun K5 hK5 => ?_
        refine cw_region ?_
        refine ow_ev ev_assign ?_
        refine ow_nil (hK5 _ _ ?_); clear hK5
        obtain rfl := some_inj hM
        refine cw_ret (kw_retc1 (fun w hm => ret_of hm rfl))
      ·
        replace hM := (ite_f hc2).symm.trans hM
        refine cw_seq fun K6 hK6 => ?_
        refine cw_region ?_
        refine ow_ev ev_move ?_
        refine ow_ev ev_eql ?_
        refine ow_ev ev_assign ?_
        refine ow_nil (hK6 _ _ ?_); clear hK6
        refine cw_cond rfl (fun hc3 => ?_) (fun hc3 => ?_)
        ·
          replace hM := (ite_t hc3).symm.trans hM
          refine cw_seq fun K7 hK7 => ?_
          refine cw_region ?_
          refine ow_ev ev_assign ?_
          refine ow_nil (hK7 _ _ ?_); clear hK7
          obtain rfl := some_inj hM
          refine cw_ret (kw_retc1 (fun w hm => ret_of hm rfl))
        ·
          replace hM := (ite_f hc3).symm.trans hM
          refine cw_seq fun K8 hK8 => ?_
          refine cw_region ?_
          refine ow_ev ev_move ?_
          refine ow_ev ev_geq ?_
          refine ow_ev ev_move ?_
          refine ow_evg rfl ev_move ?_
          refine ow_evg rfl ev_leq ?_
          refine ow_ev ev_and ?_
          refine ow_ev ev_assign ?_
          refine ow_nil (hK8 _ _ ?_); clear hK8
          refine cw_cond rfl (fun hc4 => ?_) (fun hc4 => ?_)
          ·
            replace hM := (ite_t hc4).symm.trans hM
            refine cw_seq fun K9 hK9 => ?_
            refine cw_region ?_
            refine ow_ev ev_assign ?_
            refine ow_nil (hK9 _ _ ?_); clear hK9
            obtain rfl := some_inj hM
            refine cw_ret (kw_retc1 (fun w hm => ret_of hm rfl))
          ·
            replace hM := (ite_f hc4).symm.trans hM
            refine cw_skip (hK2 _ _ ?_); clear hK2
            refine cw_seq fun K10 hK10 => ?_
            refine cw_region ?_
            refine ow_ev ev_assign ?_
            refine ow_nil (hK10 _ _ ?_); clear hK10
            obtain rfl := some_inj hM
            refine cw_ret (kw_retc1 (fun w hm => ret_of hm rfl))

end Go.Proofs.YtohhihdjdelckaaDoor

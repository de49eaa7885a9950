/- slices.Clone of a list of steps, walked by hand: it returns an equal list of its own. -/
import Derived.Test.YtnihhidbiepnhaaTypes
namespace Go.Proofs.Ytnihhidbiepnhaa
open Go.Dc Go.RowKit
set_option maxRecDepth 10000
set_option linter.unusedVariables false
def isSliceT (P : Program) (t : TypeId) : Bool := match P.underlying t with | some (.slice _) => true | _ => false
theorem ev_slnil {P : Program} {n : Nat} {κ : Ctx} {ρ : Env} {H : List Chunk} {g : Bool} {x y : Operand} {t u : TypeId} {a : Option Addr} {m c : Nat}
    (hx : Gets ρ g x (.slice a m c) := by first | exact .plain rfl | exact .cond rfl id | exact .cond rfl gl) (hy : Gets ρ g y (.slice none 0 0) := by first | exact .plain rfl | exact .cond rfl id | exact .cond rfl gl)
    (ht : isSliceT P t = true := by kernel_rfl) : Ev P n κ H ρ g (.binOp .eql t x y u) (.bool a.isNone) := by
  intro w act dst ty pos aft gd hm ho hg
  unfold isSliceT at ht
  split at ht
  · rename_i e hu
    simp only [execOp, hx.eval ho hg, hy.eval ho hg]
    refine run_value ?_
    have hgd : (eqGuard .eql t x y (.slice a m c) (.slice none 0 0)).run P w = .ok () w := by
      unfold eqGuard
      first
      | rfl
      | simp [hu, go_sem]
    rw [run_bind_ok hgd]
    have hq : (Op.equalIn 10000 t (.slice a m c) (.slice none 0 0)).run P w = .ok a.isNone w := by
      unfold Op.equalIn
      rw [run_bind_ok (run_under hu w)]
      cases a <;> rfl
    show (Op.equal t (.slice a m c) (.slice none 0 0) >>= fun b => pure (Value.bool b)).run P w = _
    have hq' : (Op.equal t (.slice a m c) (.slice none 0 0)).run P w = .ok a.isNone w := hq
    rw [run_bind_ok hq']
    rfl
  · cases ht
def slices_Clone_api_Step_api_Step_m (s0 : List Step) : Option (List Step) :=
  chk (decide ((([] : List Step).length + s0.length) * 16 ≤ 140737488355328)) <| some s0
theorem slices_Clone_api_Step_api_Step_spec (S : Soup) (w : World) (s0 : List Step) (r_s0 : GoRep.R (List Step)) (y : (List Step)) (hM : slices_Clone_api_Step_api_Step_m s0 = some y) (hS : ∀ k, S k → k < w.heap.size) (h_s0 : GoRep.ok S w r_s0 s0) :
    Calls Try.prog 82 #[.slice r_s0.a s0.length r_s0.cap] w (Post (β := (GoRep.R (List Step))) S [] (fun g => .slice g.a y.length g.cap) (fun g => [trow 40 g y]) w) := by
  have hnil : r_s0.a.isNone = true → s0 = [] := by
    intro hn
    cases s0 with
    | nil => rfl
    | cons x xs =>
      have := (h_s0.2.2 0 x rfl).1
      rw [this] at hn
      cases hn
  refine calls_cw (args := [_]) Try.func82 rfl ((pre_nil hS).start |>.immP (α := List Step) (r := r_s0) (x := s0) h_s0) rfl ?_
  unfold slices_Clone_api_Step_api_Step_m at hM
  obtain ⟨hb4, hM⟩ := chk_some hM
  refine cw_seq fun K1 hK1 => ?_
  refine cw_region ?_
  refine ow_ev ev_assign ?_
  refine ow_nil (hK1 _ _ ?_); clear hK1
  refine cw_seq fun K2 hK2 => ?_
  refine cw_seq fun K3 hK3 => ?_
  refine cw_region ?_
  refine ow_ev ev_move ?_
  refine ow_ev ev_slnil ?_
  refine ow_nil (hK3 _ _ ?_); clear hK3
  obtain rfl := some_inj hM
  refine cw_cond rfl (fun hc1 => ?_) (fun hc1 => ?_)
  ·
    obtain rfl := hnil hc1
    refine cw_seq fun K4 hK4 => ?_
    refine cw_region ?_
    refine ow_ev ev_assign ?_
    refine ow_nil (hK4 _ _ ?_); clear hK4
    refine cw_imp (fun w hm => hm.row_nil (α := Step) 40 (fun _ => ())) ?_
    refine cw_ret (kw_retc1 (fun w hm => post_of (⟨none, 0, (fun _ => ())⟩ : SR (GoRep.R Step) ) hm rfl))
  ·
    refine cw_skip (hK2 _ _ ?_); clear hK2
    refine cw_seq fun K5 hK5 => ?_
    refine cw_region ?_
    refine ow_cons (st_bslice (α := Step) 40 (fun _ => ()) ([] : List Step) (OkL.flat (fun _ _ _ _ => trivial)) (fun r3 => ?_))
    refine ow_ev ev_move ?_
    refine ow_cons (st_append (r := r3) (r2 := r_s0) (by intro r'; repeat (first | exact Upd.head | apply Upd.tail)) (Kn.imm (α := List Step) (r := r_s0) (x := y) (by repeat (first | exact Has.head | apply Has.tail))) (OkL.flat (fun _ _ _ _ => trivial)) (of_decide_eq_true hb4) (fun r5 => ?_))
    refine ow_ev ev_assign ?_
    refine ow_nil (hK5 _ _ ?_); clear hK5
    refine cw_ret (kw_retc1 (fun w hm => post_of r5 hm rfl))
end Go.Proofs.Ytnihhidbiepnhaa

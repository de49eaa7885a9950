/- Models of functions, and that the code computes them. -/
import Derived.Test.YtohhihdjdelckaaDoorWa
import Derived.Test.YtohhihdjdelckaaDoorBu
set_option linter.all false
namespace Go.Proofs.YtohhihdjdelckaaDoor
open Go.Dc Go.RowKit
set_option maxRecDepth 10000
def words_isWord_k1 (s0 : Str) : Unit → Option Bool := fun _ =>
  some (!decide (s0 = (⟨[]⟩ : Str)))
def words_isWord_b1 (s0 : Str) (cont1 : Nat → Option Bool) : Nat → Option Bool := fun t6_1 =>
  if decide ((t6_1 : Int) < (s0.l.length : Int)) then
    ((byteAt s0 (t6_1 : Int)).bind fun c3 =>
    (words_class_m c3).bind fun y5 =>
    if decide (y5 ≠ 4) then
      (some false)
    else
      (cont1 (t6_1 + 1)))
  else
    (words_isWord_k1 s0 ())
def words_isWord_m (s0 : Str) : Option Bool :=
  chk (decide ((s0.l.length : Int) ≤ 9223372036854775807)) <|
  iter (words_isWord_b1 s0) FUEL 0
theorem words_isWord_spec (S : Soup) (w : World) (s0 : Str) (y : Bool) (hM : words_isWord_m s0 = some y) (hS : ∀ k, S k → k < w.heap.size)  :
    Calls Tryd.prog 73 #[.string s0.ba] w (Ret w (.bool y)) := by
  refine calls_cw (args := [_]) Tryd.func73 rfl ((pre_nil hS).start) rfl ?_
  unfold words_isWord_m at hM
  refine cw_seq fun K1 hK1 => ?_
  refine cw_region ?_
  refine ow_ev ev_assign ?_
  refine ow_nil (hK1 _ _ ?_); clear hK1
  refine cw_seq fun K2 hK2 => ?_
  refine cw_seq fun K3 hK3 => ?_
  refine cw_region ?_
  refine ow_ev ev_move ?_
  obtain ⟨hl1, hM⟩ := chk_some hM
  replace hl1 := of_decide_eq_true hl1
  refine ow_ev ev_slen ?_
  refine ow_ev ev_move ?_
  refine ow_nil (hK3 _ _ ?_); clear hK3
  refine cw_block ?_
  refine cw_loop (γ := Nat × Nat × Unit) (env := fun (_, t6_1, _) => [(0, .v (.string s0.ba)), (5, .v (.int .i64 (s0.l.length : Int))), (6, .v (.int .i64 (t6_1 : Int)))]) (mem := fun (_, t6_1, _) => []) (R := fun g => iter (words_isWord_b1 s0) g.1 g.2.1 = some y) (μ := fun g => g.1) (FUEL, 0, ()) hM ⟨rfl, rfl, rfl, trivial⟩ (fun w hm => hm.reord) ?_
  clear hM
  intro g hM KL1 hL1
  obtain ⟨nn1, t6_1, ⟨⟩⟩ := g
  dsimp only at hM ⊢
  obtain ⟨nn1, cont1, rfl, hcont1, hM⟩ := iter_open' hM
  dsimp only [words_isWord_b1] at hM
  refine cw_seq fun K4 hK4 => ?_
  refine cw_region ?_
  refine ow_ev ev_lss ?_
  refine ow_nil (hK4 _ _ ?_); clear hK4
  refine cw_seq fun K5 hK5 => ?_
  refine cw_cond rfl (fun hc2 => ?_) (fun hc2 => ?_)
  ·
    replace hM := (ite_t hc2).symm.trans hM
    have hc2d := of_decide_eq_true hc2
    refine cw_skip (hK5 _ _ ?_); clear hK5
    refine cw_seq fun K6 hK6 => ?_
    refine cw_block ?_
    refine cw_seq fun K7 hK7 => ?_
    refine cw_region ?_
    refine ow_ev ev_move ?_
    refine ow_ev ev_assign ?_
    refine ow_nil (hK7 _ _ ?_); clear hK7
    refine cw_seq fun K8 hK8 => ?_
    refine cw_region ?_
    refine ow_ev ev_move ?_
    refine ow_ev ev_move ?_
    obtain ⟨c3, hc_4, hM⟩ := bind_some hM
    refine ow_ev (ev_sidx (fun _ => hc_4)) ?_
    obtain ⟨y5, hy6, hM⟩ := bind_some hM
    refine ow_cons (st_callv (fun w hm => let ⟨S, hs⟩ := hm; words_class_spec _ w c3 y5 hy6 (lend_lt hs) ) ?_)
    refine ow_ev ev_neq ?_
    refine ow_nil (hK8 _ _ ?_); clear hK8
    refine cw_cond rfl (fun hc7 => ?_) (fun hc7 => ?_)
    ·
      replace hM := (ite_t hc7).symm.trans hM
      refine cw_seq fun K9 hK9 => ?_
      refine cw_region ?_
      refine ow_ev ev_assign ?_
      refine ow_nil (hK9 _ _ ?_); clear hK9
      obtain rfl := some_inj hM
      refine cw_ret (kw_retc1 (fun w hm => ret_of hm rfl))
    ·
      replace hM := (ite_f hc7).symm.trans hM
      refine cw_skip (hK6 _ _ ?_); clear hK6
      refine cw_region ?_
      refine ow_ev (ev_add (hr := fun _ => by unfold I64; omega)) ?_
      refine ow_ev ev_move ?_
      refine ow_nil (hL1 (nn1, (t6_1 + 1), ()) _ _ (eqc hcont1 hM) (Nat.lt_succ_self _) ⟨rfl, rfl, rfl, trivial⟩ (fun w hm => hm.reord))
  ·
    replace hM := (ite_f hc2).symm.trans hM
    refine cw_exit (hK2 _ _ ?_); clear hK2
    dsimp only [words_isWord_k1] at hM
    refine cw_seq fun K10 hK10 => ?_
    refine cw_region ?_
    refine ow_ev ev_move ?_
    refine ow_ev ev_str_neq ?_
    refine ow_ev ev_assign ?_
    refine ow_nil (hK10 _ _ ?_); clear hK10
    obtain rfl := some_inj hM
    refine cw_ret (kw_retc1 (fun w hm => ret_of hm rfl))

def words_Join_k4 (x10 : Str) (cont2 : ((List UInt8) × Nat) → Option Str) (t24_2 : Nat) : (List UInt8) → Option Str := fun ltext_j4_1 =>
  chk (decide (ltext_j4_1.length + x10.l.length ≤ 140737488355328)) <|
  cont2 ((ltext_j4_1 ++ x10.l), t24_2 + 1)
def words_Join_k2 (cont1 : ((List UInt8) × Nat) → Option Str) (ltext_2_1 : List UInt8) (t10_1 : Nat) : Unit → Option Str := fun _ =>
  cont1 ((ltext_2_1 ++ [u8 10]), t10_1 + 1)
def words_Join_k3 (ltext_2_1 : List UInt8) (cont1 : ((List UInt8) × Nat) → Option Str) (t10_1 : Nat) : Unit → Option Str := fun _ =>
  chk (decide ((ltext_2_1.length + 1) * 1 ≤ 140737488355328)) <|
  words_Join_k2 cont1 ltext_2_1 t10_1 ()
def words_Join_b2 (x5 : List Str) (cont1 : ((List UInt8) × Nat) → Option Str) (t10_1 : Nat) (cont2 : ((List UInt8) × Nat) → Option Str) : ((List UInt8) × Nat) → Option Str := fun (ltext_2_1, t24_2) =>
  if decide ((t24_2 : Int) < (x5.length : Int)) then
    ((idx x5 (t24_2 : Int)).bind fun x10 =>
    (words_isWord_m x10).bind fun y12 =>
    if (!y12) then
      (some (⟨[]⟩ : Str))
    else
      (if decide (0 < (t24_2 : Int)) then
        (chk (decide ((ltext_2_1.length + 1) * 1 ≤ 140737488355328)) <|
        words_Join_k4 x10 cont2 t24_2 (ltext_2_1 ++ [u8 32]))
      else
        (words_Join_k4 x10 cont2 t24_2 ltext_2_1)))
  else
    (words_Join_k3 ltext_2_1 cont1 t10_1 ())
def words_Join_k1 (ltext_1_1 : List UInt8) : Unit → Option Str := fun _ =>
  some (⟨ltext_1_1⟩ : Str)
def words_Join_b1 (l0 : List (List Str)) (cont1 : ((List UInt8) × Nat) → Option Str) : ((List UInt8) × Nat) → Option Str := fun (ltext_1_1, t10_1) =>
  if decide ((t10_1 : Int) < (l0.length : Int)) then
    ((idx l0 (t10_1 : Int)).bind fun x5 =>
    if (decide ((x5.length : Int) = 0) || decide (64 < (x5.length : Int))) then
      (some (⟨[]⟩ : Str))
    else
      (iter (words_Join_b2 x5 cont1 t10_1) FUEL (ltext_1_1, 0)))
  else
    (words_Join_k1 ltext_1_1 ())
def words_Join_m (l0 : List (List Str)) : Option Str :=
  iter (words_Join_b1 l0) FUEL (([] : List UInt8), 0)
theorem words_Join_spec (S : Soup) (w : World) (l0 : List (List Str)) (r_l0 : GoRep.R (List (List Str))) (y : Str) (hM : words_Join_m l0 = some y) (hS : ∀ k, S k → k < w.heap.size) (h_l0 : GoRep.ok S w r_l0 l0) :
    Calls Tryd.prog 45 #[.slice r_l0.a l0.length r_l0.cap] w (Ret w (.string y.ba)) := by
  refine calls_cw (args := [_]) Tryd.func45 rfl ((pre_nil hS).start |>.immP (α := List (List Str)) (r := r_l0) (x := l0) h_l0) rfl ?_
  unfold words_Join_m at hM
  refine cw_seq fun K1 hK1 => ?_
  refine cw_region ?_
  refine ow_ev ev_assign ?_
  refine ow_nil (hK1 _ _ ?_); clear hK1
  refine cw_seq fun K2 hK2 => ?_
  refine cw_region ?_
  refine ow_cons (st_alloc rfl (k := fun b1 => ?_))
  refine ow_imp (fun w hm => hm.row_nil (α := UInt8) 5 (fun _ => ())) ?_
  refine ow_nil (hK2 _ _ ?_); clear hK2
  refine cw_seq fun K3 hK3 => ?_
  refine cw_seq fun K4 hK4 => ?_
  refine cw_region ?_
  refine ow_ev ev_move ?_
  refine ow_have (fun w hm => Kn.len (Kn.imm (α := List (List Str)) (r := r_l0) (x := l0) (by repeat (first | exact Has.head | apply Has.tail))) hm) fun hl3 => ?_
  refine ow_ev ev_len ?_
  refine ow_ev ev_move ?_
  refine ow_nil (hK4 _ _ ?_); clear hK4
  refine cw_block ?_
  refine cw_loop (γ := Nat × ((List UInt8) × Nat) × (Bool × (SR (GoRep.R UInt8)))) (env := fun (_, (ltext_1_1, t10_1), (utext_1, rtext_1_1)) => [(3, .v (.pointer (some ⟨b1, 0, none⟩))), (8, .v (.slice r_l0.a l0.length r_l0.cap)), (9, .v (.int .i64 (l0.length : Int))), (10, .v (.int .i64 (t10_1 : Int)))]) (mem := fun (_, (ltext_1_1, t10_1), (utext_1, rtext_1_1)) => [trow 5 rtext_1_1 ltext_1_1, own b1 121 [bptr utext_1 b1, .slice rtext_1_1.a ltext_1_1.length rtext_1_1.cap], imm (α := (List (List Str))) r_l0 l0]) (R := fun g => iter (words_Join_b1 l0) g.1 g.2.1 = some y) (μ := fun g => g.1) (FUEL, (([] : List UInt8), 0), (false, (⟨none, 0, (fun _ => ())⟩ : SR (GoRep.R UInt8) ))) hM ⟨rfl, rfl, rfl, rfl, trivial⟩ (fun w hm => hm.reord) ?_
  clear hM
  intro g hM KL1 hL1
  obtain ⟨nn1, ⟨ltext_1_1, t10_1⟩, ⟨utext_1, rtext_1_1⟩⟩ := g
  dsimp only at hM ⊢
  obtain ⟨nn1, cont1, rfl, hcont1, hM⟩ := iter_open' hM
  dsimp only [words_Join_b1] at hM
  refine cw_seq fun K5 hK5 => ?_
  refine cw_region ?_
  refine ow_ev ev_lss ?_
  refine ow_nil (hK5 _ _ ?_); clear hK5
  refine cw_seq fun K6 hK6 => ?_
  refine cw_cond rfl (fun hc4 => ?_) (fun hc4 => ?_)
  ·
    replace hM := (ite_t hc4).symm.trans hM
    have hc4d := of_decide_eq_true hc4
    refine cw_skip (hK6 _ _ ?_); clear hK6
    refine cw_seq fun K7 hK7 => ?_
    refine cw_block ?_
    refine cw_seq fun K8 hK8 => ?_
    refine cw_region ?_
    obtain ⟨x5, hx6, hM⟩ := bind_some hM
    refine ow_ev (ev_idx (xs := l0) 1 (Kn.imm (α := List (List Str)) (r := r_l0) (x := l0) (by repeat (first | exact Has.head | apply Has.tail))) (fun hg => let h := idx_some hx6; ⟨h.1, h.2.1⟩)) ?_
    refine ow_ev (ev_ld (i := (t10_1 : Int)) (xs := l0) (y := x5) 0 (Kn.imm (α := List (List Str)) (r := r_l0) (x := l0) (by repeat (first | exact Has.head | apply Has.tail))) (fun _ => hx6)) ?_
    refine ow_ev ev_assign ?_
    refine ow_nil (hK8 _ _ ?_); clear hK8
    refine cw_seq fun K9 hK9 => ?_
    refine cw_seq fun K10 hK10 => ?_
    refine cw_region ?_
    refine ow_ev ev_move ?_
    refine ow_ev ev_len ?_
    refine ow_ev ev_eql ?_
    refine ow_ev ev_move ?_
    refine ow_evg rfl ev_move ?_
    refine ow_evg rfl ev_len ?_
    refine ow_evg rfl ev_gtr ?_
    refine ow_ev ev_or ?_
    refine ow_nil (hK10 _ _ ?_); clear hK10
    refine cw_cond rfl (fun hc7 => ?_) (fun hc7 => ?_)
    ·
      replace hM := (ite_t hc7).symm.trans hM
      refine cw_seq fun K11 hK11 => ?_
      refine cw_region ?_
      refine ow_ev ev_assign ?_
      refine ow_nil (hK11 _ _ ?_); clear hK11
      obtain rfl := some_inj hM
      refine cw_ret (kw_retc1 (fun w hm => ret_of hm rfl))
    ·
      replace hM := (ite_f hc7).symm.trans hM
      refine cw_skip (hK9 _ _ ?_); clear hK9
      refine cw_seq fun K12 hK12 => ?_
      refine cw_seq fun K13 hK13 => ?_
      refine cw_region ?_
      refine ow_ev ev_move ?_
      refine ow_have (fun w hm => Kn.len ((Sk.elem (Sk.imm (α := List (List Str)) (r := r_l0) (x := l0) (by repeat (first | exact Has.head | apply Has.tail))) hx6)).kn hm) fun hl8 => ?_
      refine ow_ev ev_len ?_
      refine ow_ev ev_move ?_
      refine ow_nil (hK13 _ _ ?_); clear hK13
      refine cw_block ?_
      refine cw_loop (γ := Nat × ((List UInt8) × Nat) × (Bool × (SR (GoRep.R UInt8)))) (env := fun (_, (ltext_2_1, t24_2), (utext_2, rtext_2_1)) => [(3, .v (.pointer (some ⟨b1, 0, none⟩))), (8, .v (.slice r_l0.a l0.length r_l0.cap)), (9, .v (.int .i64 (l0.length : Int))), (10, .v (.int .i64 (t10_1 : Int))), (22, .v (.slice (r_l0.es (t10_1 : Int).toNat).a x5.length (r_l0.es (t10_1 : Int).toNat).cap)), (23, .v (.int .i64 (x5.length : Int))), (24, .v (.int .i64 (t24_2 : Int)))]) (mem := fun (_, (ltext_2_1, t24_2), (utext_2, rtext_2_1)) => [trow 5 rtext_2_1 ltext_2_1, own b1 121 [bptr utext_2 b1, .slice rtext_2_1.a ltext_2_1.length rtext_2_1.cap], imm (α := (List (List Str))) r_l0 l0]) (R := fun g => iter (words_Join_b2 x5 cont1 t10_1) g.1 g.2.1 = some y) (μ := fun g => g.1) (FUEL, (ltext_1_1, 0), (utext_1, rtext_1_1)) hM ⟨rfl, rfl, rfl, rfl, rfl, rfl, rfl, trivial⟩ (fun w hm => hm.reord) ?_
      clear hM
      intro g hM KL2 hL2
      obtain ⟨nn2, ⟨ltext_2_1, t24_2⟩, ⟨utext_2, rtext_2_1⟩⟩ := g
      dsimp only at hM ⊢
      obtain ⟨nn2, cont2, rfl, hcont2, hM⟩ := iter_open' hM
      dsimp only [words_Join_b2] at hM
      refine cw_seq fun K14 hK14 => ?_
      refine cw_region ?_
      refine ow_ev ev_lss ?_
      refine ow_nil (hK14 _ _ ?_); clear hK14
      refine cw_seq fun K15 hK15 => ?_
      refine cw_cond rfl (fun hc9 => ?_) (fun hc9 => ?_)
      ·
        replace hM := (ite_t hc9).symm.trans hM
        have hc9d := of_decide_eq_true hc9
        refine cw_skip (hK15 _ _ ?_); clear hK15
        refine cw_seq fun K16 hK16 => ?_
        refine cw_block ?_
        refine cw_seq fun K17 hK17 => ?_
        refine cw_region ?_
        refine ow_ev ev_move ?_
        obtain ⟨x10, hx11, hM⟩ := bind_some hM
        refine ow_ev (ev_idx (xs := x5) 1 ((Sk.elem (Sk.imm (α := List (List Str)) (r := r_l0) (x := l0) (by repeat (first | exact Has.head | apply Has.tail))) hx6)).kn (fun hg => let h := idx_some hx11; ⟨h.1, h.2.1⟩)) ?_
        refine ow_ev (ev_ld (i := (t24_2 : Int)) (xs := x5) (y := x10) 0 ((Sk.elem (Sk.imm (α := List (List Str)) (r := r_l0) (x := l0) (by repeat (first | exact Has.head | apply Has.tail))) hx6)).kn (fun _ => hx11)) ?_
        refine ow_ev ev_assign ?_
        refine ow_ev ev_assign ?_
        refine ow_nil (hK17 _ _ ?_); clear hK17
        refine cw_seq fun K18 hK18 => ?_
        refine cw_seq fun K19 hK19 => ?_
        refine cw_region ?_
        refine ow_ev ev_move ?_
        obtain ⟨y12, hy13, hM⟩ := bind_some hM
        refine ow_cons (st_callv (fun w hm => let ⟨S, hs⟩ := hm; words_isWord_spec _ w x10 y12 hy13 (lend_lt hs) ) ?_)
        refine ow_ev ev_not ?_
        refine ow_nil (hK19 _ _ ?_); clear hK19
        refine cw_cond rfl (fun hc14 => ?_) (fun hc14 => ?_)
        ·
          replace hM := (ite_t hc14).symm.trans hM
          refine cw_seq fun K20 hK20 => ?_
          refine cw_region ?_
          refine ow_ev ev_assign ?_
          refine ow_nil (hK20 _ _ ?_); clear hK20
          obtain rfl := some_inj hM
          refine cw_ret (kw_retc1 (fun w hm => ret_of hm rfl))
        ·
          replace hM := (ite_f hc14).symm.trans hM
          refine cw_skip (hK18 _ _ ?_); clear hK18
          refine cw_cut (γ := (List UInt8) × (Bool × (SR (GoRep.R UInt8)))) (env := fun (ltext_j4_1, (utext_j4, rtext_j4_1)) => [(3, .v (.pointer (some ⟨b1, 0, none⟩))), (7, .v (.string x10.ba)), (8, .v (.slice r_l0.a l0.length r_l0.cap)), (9, .v (.int .i64 (l0.length : Int))), (10, .v (.int .i64 (t10_1 : Int))), (22, .v (.slice (r_l0.es (t10_1 : Int).toNat).a x5.length (r_l0.es (t10_1 : Int).toNat).cap)), (23, .v (.int .i64 (x5.length : Int))), (24, .v (.int .i64 (t24_2 : Int)))]) (mem := fun (ltext_j4_1, (utext_j4, rtext_j4_1)) => [trow 5 rtext_j4_1 ltext_j4_1, own b1 121 [bptr utext_j4 b1, .slice rtext_j4_1.a ltext_j4_1.length rtext_j4_1.cap], imm (α := (List (List Str))) r_l0 l0]) (R := fun g => words_Join_k4 x10 cont2 t24_2 g.1 = some y) ?_ ?_
          · intro KJ4 hJ4
            refine cw_seq fun K21 hK21 => ?_
            refine cw_region ?_
            refine ow_ev ev_move ?_
            refine ow_ev ev_gtr ?_
            refine ow_nil (hK21 _ _ ?_); clear hK21
            refine cw_cond rfl (fun hc17 => ?_) (fun hc17 => ?_)
            ·
              replace hM := (ite_t hc17).symm.trans hM
              refine cw_region ?_
              obtain ⟨hb18, hM⟩ := chk_some hM
              refine ow_cons (st_callF (by repeat (first | exact SelL.nil | (apply SelL.cons; · (repeat (first | exact Sel.head | apply Sel.tail))))) (fun S w hs hP => Builder_WriteByte_spec _ w b1 utext_2 rtext_2_1 ltext_2_1 32 hb18 (by decide) hP) (by intro r c hc; simp only [List.mem_cons, List.not_mem_nil, or_false] at hc; rcases hc with rfl | rfl; exact flatC_own; exact flatC_trow (fun _ _ _ _ => trivial)) (fun r19 => ?_))
              dsimp only [List.cons_append, List.nil_append]
              refine ow_nil (hJ4 ((ltext_2_1 ++ [u8 32]), (true, r19)) _ _ hM ⟨rfl, rfl, rfl, rfl, rfl, rfl, rfl, rfl, trivial⟩ (fun w hm => hm.reord))
            ·
              replace hM := (ite_f hc17).symm.trans hM
              refine cw_skip (hJ4 (ltext_2_1, (utext_2, rtext_2_1)) _ _ hM ⟨rfl, rfl, rfl, rfl, rfl, rfl, rfl, rfl, trivial⟩ (fun w hm => hm.reord))
          ·
            clear hM
            intro g hM
            obtain ⟨ltext_j4_1, ⟨utext_j4, rtext_j4_1⟩⟩ := g
            dsimp only at hM ⊢
            dsimp only [words_Join_k4] at hM
            refine cw_region ?_
            refine ow_ev ev_move ?_
            obtain ⟨hb15, hM⟩ := chk_some hM
            refine ow_cons (st_callF (by repeat (first | exact SelL.nil | (apply SelL.cons; · (repeat (first | exact Sel.head | apply Sel.tail))))) (fun S w hs hP => Builder_WriteString_spec _ w b1 utext_j4 rtext_j4_1 ltext_j4_1 x10 hb15 hP) (by intro r c hc; simp only [List.mem_cons, List.not_mem_nil, or_false] at hc; rcases hc with rfl | rfl; exact flatC_own; exact flatC_trow (fun _ _ _ _ => trivial)) (fun r16 => ?_))
            dsimp only [List.cons_append, List.nil_append]
            refine ow_nil (hK16 _ _ ?_); clear hK16
            refine cw_region ?_
            refine ow_ev (ev_add (hr := fun _ => by unfold I64; omega)) ?_
            refine ow_ev ev_move ?_
            refine ow_nil (hL2 (nn2, ((ltext_j4_1 ++ x10.l), t24_2 + 1), (true, r16)) _ _ (eqc hcont2 hM) (Nat.lt_succ_self _) ⟨rfl, rfl, rfl, rfl, rfl, rfl, rfl, trivial⟩ (fun w hm => hm.reord))
      ·
        replace hM := (ite_f hc9).symm.trans hM
        refine cw_exit (hK12 _ _ ?_); clear hK12
        dsimp only [words_Join_k3] at hM
        refine cw_region ?_
        obtain ⟨hb20, hM⟩ := chk_some hM
        refine ow_cons (st_callF (by repeat (first | exact SelL.nil | (apply SelL.cons; · (repeat (first | exact Sel.head | apply Sel.tail))))) (fun S w hs hP => Builder_WriteByte_spec _ w b1 utext_2 rtext_2_1 ltext_2_1 10 hb20 (by decide) hP) (by intro r c hc; simp only [List.mem_cons, List.not_mem_nil, or_false] at hc; rcases hc with rfl | rfl; exact flatC_own; exact flatC_trow (fun _ _ _ _ => trivial)) (fun r21 => ?_))
        dsimp only [List.cons_append, List.nil_append]
        refine ow_nil (hK7 _ _ ?_); clear hK7
        dsimp only [words_Join_k2] at hM
        refine cw_region ?_
        refine ow_ev (ev_add (hr := fun _ => by unfold I64; omega)) ?_
        refine ow_ev ev_move ?_
        refine ow_nil (hL1 (nn1, ((ltext_2_1 ++ [u8 10]), t10_1 + 1), (true, r21)) _ _ (eqc hcont1 hM) (Nat.lt_succ_self _) ⟨rfl, rfl, rfl, rfl, trivial⟩ (fun w hm => hm.reord))
  ·
    replace hM := (ite_f hc4).symm.trans hM
    refine cw_exit (hK3 _ _ ?_); clear hK3
    dsimp only [words_Join_k1] at hM
    refine cw_seq fun K22 hK22 => ?_
    refine cw_region ?_
    refine ow_cons (st_callF (by repeat (first | exact SelL.nil | (apply SelL.cons; · (repeat (first | exact Sel.head | apply Sel.tail))))) (fun S w hs hP => Builder_String_spec _ w b1 utext_1 rtext_1_1 ltext_1_1 hP) (by intro r c hc; cases hc) (fun r22 => ?_))
    dsimp only [List.cons_append, List.nil_append]
    refine ow_ev ev_assign ?_
    refine ow_nil (hK22 _ _ ?_); clear hK22
    obtain rfl := some_inj hM
    refine cw_ret (kw_retc1 (fun w hm => ret_of hm rfl))

end Go.Proofs.YtohhihdjdelckaaDoor

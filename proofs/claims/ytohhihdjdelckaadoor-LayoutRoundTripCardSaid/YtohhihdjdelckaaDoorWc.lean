/- Models of functions, and that the code computes them. -/
import Derived.Test.YtohhihdjdelckaaDoorWa
import Derived.Test.YtohhihdjdelckaaDoorWIdx
set_option linter.all false
namespace Go.Proofs.YtohhihdjdelckaaDoor
open Go.Dc Go.RowKit
set_option maxRecDepth 10000
def stringslite_Cut_m (s0 : Str) (sep0 : Str) : Option (Str × Str × Bool) :=
  (stringslite_Index_m s0 sep0).bind fun y1 =>
  if decide (0 ≤ y1) then
    ((strSub s0 0 y1).bind fun q4 =>
    chk (i64b (y1 + (sep0.l.length : Int))) <|
    (strSub s0 (y1 + (sep0.l.length : Int)) (s0.l.length : Int)).bind fun q7 =>
    some (q4, q7, true))
  else
    (some (s0, (⟨[]⟩ : Str), false))
theorem stringslite_Cut_spec (S : Soup) (w : World) (s0 : Str) (sep0 : Str) (y : Str × Str × Bool) (hM : stringslite_Cut_m s0 sep0 = some y) (hS : ∀ k, S k → k < w.heap.size)  :
    Calls Tryd.prog 105 #[.string s0.ba, .string sep0.ba] w (Ret w (.tuple #[.string y.1.ba, .string y.2.1.ba, .bool y.2.2])) := by
  refine calls_cw (args := [_, _]) Tryd.func105 rfl ((pre_nil hS).start) rfl ?_
  unfold stringslite_Cut_m at hM
  refine cw_seq fun K1 hK1 => ?_
  refine cw_region ?_
  refine ow_ev ev_assign ?_
  refine ow_ev ev_assign ?_
  refine ow_ev ev_assign ?_
  refine ow_nil (hK1 _ _ ?_); clear hK1
  refine cw_seq fun K2 hK2 => ?_
  refine cw_seq fun K3 hK3 => ?_
  refine cw_region ?_
  refine ow_ev ev_move ?_
  refine ow_ev ev_move ?_
  obtain ⟨y1, hy2, hM⟩ := bind_some hM
  refine ow_cons (st_callv (fun w hm => let ⟨S, hs⟩ := hm; stringslite_Index_spec _ w s0 sep0 y1 hy2 (lend_lt hs) ) ?_)
  refine ow_ev ev_assign ?_
  refine ow_nil (hK3 _ _ ?_); clear hK3
  refine cw_seq fun K4 hK4 => ?_
  refine cw_region ?_
  refine ow_ev ev_move ?_
  refine ow_ev ev_geq ?_
  refine ow_nil (hK4 _ _ ?_); clear hK4
  refine cw_cond rfl (fun hc3 => ?_) (fun hc3 => ?_)
  ·
    replace hM := (ite_t hc3).symm.trans hM
    refine cw_seq fun K5 hK5 => ?_
    refine cw_region_any _ (List.Sublist.refl _) ?_
    refine aw_ev 0 rfl ev_move ?_
    refine aw_ev 1 rfl ev_move ?_
    obtain ⟨q4, hq5, hM⟩ := bind_some hM
    refine aw_ev 2 rfl (ev_ssub (ol := none) (oh := some (.i64, y1)) (fun _ => hq5)) ?_
    refine aw_ev 3 rfl ev_move ?_
    refine aw_ev 4 rfl ev_move ?_
    refine aw_ev 5 rfl ev_move ?_
    refine aw_ev 6 rfl ev_slen ?_
    obtain ⟨hI6, hM⟩ := chk_some hM
    refine aw_ev 7 rfl (ev_add (hr := fun hg => i64b_I64 hI6)) ?_
    obtain ⟨q7, hq8, hM⟩ := bind_some hM
    refine aw_ev 8 rfl (ev_ssub (ol := some (.i64, (y1 + (sep0.l.length : Int)))) (oh := none) (fun _ => hq8)) ?_
    refine aw_ev 9 rfl ev_assign ?_
    refine aw_ev 10 rfl ev_assign ?_
    refine aw_ev 11 rfl ev_assign ?_
    refine aw_done (hK5 _ _ ?_); clear hK5
    obtain rfl := some_inj hM
    refine cw_ret (kw_retc3 (fun w hm => ret_of hm rfl))
  ·
    replace hM := (ite_f hc3).symm.trans hM
    refine cw_skip (hK2 _ _ ?_); clear hK2
    refine cw_seq fun K6 hK6 => ?_
    refine cw_region ?_
    refine ow_ev ev_move ?_
    refine ow_ev ev_assign ?_
    refine ow_ev ev_assign ?_
    refine ow_ev ev_assign ?_
    refine ow_nil (hK6 _ _ ?_); clear hK6
    obtain rfl := some_inj hM
    refine cw_ret (kw_retc3 (fun w hm => ret_of hm rfl))

def strings_Cut_m (s0 : Str) (sep0 : Str) : Option (Str × Str × Bool) :=
  (stringslite_Cut_m s0 sep0).bind fun y1 =>
  some (y1.1, y1.2.1, y1.2.2)
theorem strings_Cut_spec (S : Soup) (w : World) (s0 : Str) (sep0 : Str) (y : Str × Str × Bool) (hM : strings_Cut_m s0 sep0 = some y) (hS : ∀ k, S k → k < w.heap.size)  :
    Calls Tryd.prog 87 #[.string s0.ba, .string sep0.ba] w (Ret w (.tuple #[.string y.1.ba, .string y.2.1.ba, .bool y.2.2])) := by
  refine calls_cw (args := [_, _]) Tryd.func87 rfl ((pre_nil hS).start) rfl ?_
  unfold strings_Cut_m at hM
  refine cw_seq fun K1 hK1 => ?_
  refine cw_region ?_
  refine ow_ev ev_assign ?_
  refine ow_ev ev_assign ?_
  refine ow_ev ev_assign ?_
  refine ow_nil (hK1 _ _ ?_); clear hK1
  refine cw_seq fun K2 hK2 => ?_
  refine cw_region ?_
  refine ow_ev ev_move ?_
  refine ow_ev ev_move ?_
  obtain ⟨y1, hy2, hM⟩ := bind_some hM
  refine ow_cons (st_callv (fun w hm => let ⟨S, hs⟩ := hm; stringslite_Cut_spec _ w s0 sep0 y1 hy2 (lend_lt hs) ) ?_)
  refine ow_ev (ev_extract (vs := [.string y1.1.ba, .string y1.2.1.ba, .bool y1.2.2])) ?_
  refine ow_ev (ev_extract (vs := [.string y1.1.ba, .string y1.2.1.ba, .bool y1.2.2])) ?_
  refine ow_ev (ev_extract (vs := [.string y1.1.ba, .string y1.2.1.ba, .bool y1.2.2])) ?_
  refine ow_ev ev_assign ?_
  refine ow_ev ev_assign ?_
  refine ow_ev ev_assign ?_
  refine ow_nil (hK2 _ _ ?_); clear hK2
  obtain rfl := some_inj hM
  refine cw_ret (kw_retc3 (fun w hm => ret_of hm rfl))

def words_appendWord_m (line0 : List Word) (text0 : Str) (start0 : Int) (end0 : Int) (number0 : Int) : Option (List Word) :=
  if decide (start0 < 0) then
    (some line0)
  else
    ((strSub text0 start0 end0).bind fun q2 =>
    chk (i64b (start0 + 1)) <|
    chk (decide ((line0.length + ([(Word.mk q2 number0 (start0 + 1))] : List Word).length) * 32 ≤ 140737488355328)) <|
    some (line0 ++ ([(Word.mk q2 number0 (start0 + 1))] : List Word)))
theorem words_appendWord_spec (S : Soup) (w : World) (line0 : List Word) (r_line0 : GoRep.R (List Word)) (text0 : Str) (start0 : Int) (end0 : Int) (number0 : Int) (y : (List Word)) (hM : words_appendWord_m line0 text0 start0 end0 number0 = some y) (hP : Pre S [trow 83 r_line0 line0] w)  :
    Calls Tryd.prog 89 #[.slice r_line0.a line0.length r_line0.cap, .string text0.ba, .int .i64 start0, .int .i64 end0, .int .i64 number0] w (Post (β := (GoRep.R (List Word))) S [trow 83 r_line0 line0] (fun g => .slice g.a y.length g.cap) (fun g => [trow 83 g y]) w) := by
  refine calls_cw (args := [_, _, _, _, _]) Tryd.func89 rfl (hP.start) rfl ?_
  unfold words_appendWord_m at hM
  refine cw_seq fun K1 hK1 => ?_
  refine cw_region ?_
  refine ow_ev ev_assign ?_
  refine ow_nil (hK1 _ _ ?_); clear hK1
  refine cw_seq fun K2 hK2 => ?_
  refine cw_seq fun K3 hK3 => ?_
  refine cw_region ?_
  refine ow_ev ev_move ?_
  refine ow_ev ev_lss ?_
  refine ow_nil (hK3 _ _ ?_); clear hK3
  refine cw_cond rfl (fun hc1 => ?_) (fun hc1 => ?_)
  ·
    replace hM := (ite_t hc1).symm.trans hM
    refine cw_seq fun K4 hK4 => ?_
    refine cw_region ?_
    refine ow_ev ev_move ?_
    refine ow_ev ev_assign ?_
    refine ow_nil (hK4 _ _ ?_); clear hK4
    obtain rfl := some_inj hM
    refine cw_ret (kw_retc1 (fun w hm => post_of r_line0 hm rfl))
  ·
    replace hM := (ite_f hc1).symm.trans hM
    refine cw_skip (hK2 _ _ ?_); clear hK2
    refine cw_seq fun K5 hK5 => ?_
    refine cw_region ?_
    refine ow_ev ev_move ?_
    refine ow_ev ev_move ?_
    refine ow_ev ev_move ?_
    refine ow_ev ev_move ?_
    obtain ⟨q2, hq3, hM⟩ := bind_some hM
    refine ow_ev (ev_ssub (ol := some (.i64, start0)) (oh := some (.i64, end0)) (fun _ => hq3)) ?_
    refine ow_ev ev_move ?_
    refine ow_ev ev_move ?_
    obtain ⟨hI4, hM⟩ := chk_some hM
    refine ow_ev (ev_add (hr := fun hg => i64b_I64 hI4)) ?_
    refine ow_ev (ev_build [.string q2.ba, .int .i64 number0, .int .i64 (start0 + 1)]) ?_
    refine ow_cons (st_bslice (α := Word) 83 (fun _ => ()) ([(Word.mk q2 number0 (start0 + 1))] : List Word) (OkL.flat (fun _ _ _ _ => trivial)) (fun r5 => ?_))
    obtain ⟨hb7, hM⟩ := chk_some hM
    refine ow_cons (st_append (r := r_line0) (r2 := r5) (by intro r'; repeat (first | exact Upd.head | apply Upd.tail)) (Kn.trow (e := 83) (r := r5) (by repeat (first | exact Has.head | apply Has.tail))) (OkL.flat (fun _ _ _ _ => trivial)) (of_decide_eq_true hb7) (fun r6 => ?_))
    refine ow_ev ev_assign ?_
    refine ow_nil (hK5 _ _ ?_); clear hK5
    obtain rfl := some_inj hM
    refine cw_ret (kw_retc1 (fun w hm => post_of r6 hm rfl))

def words_split_k2 (cont1 : ((List Word) × Int × Nat) → Option ((List Word) × Bool)) (t17_1 : Nat) : ((List Word) × Int) → Option ((List Word) × Bool) := fun (lline_j2, start_j2) =>
  cont1 (lline_j2, start_j2, t17_1 + 1)
def words_split_k1 (lline_1 : List Word) (y1 : Str × Str × Bool) (start_1 : Int) (number0 : Int) : Unit → Option ((List Word) × Bool) := fun _ =>
  (words_appendWord_m lline_1 y1.1 start_1 (y1.1.l.length : Int) number0).bind fun y17 =>
  some (y17, true)
def words_split_b1 (y1 : Str × Str × Bool) (number0 : Int) (cont1 : ((List Word) × Int × Nat) → Option ((List Word) × Bool)) : ((List Word) × Int × Nat) → Option ((List Word) × Bool) := fun (lline_1, start_1, t17_1) =>
  if decide ((t17_1 : Int) < (y1.1.l.length : Int)) then
    ((byteAt y1.1 (t17_1 : Int)).bind fun c6 =>
    (words_class_m c6).bind fun y8 =>
    if decide (y8 = 4) then
      (if decide (start_1 < 0) then
        (words_split_k2 cont1 t17_1 (lline_1, (t17_1 : Int)))
      else
        (words_split_k2 cont1 t17_1 (lline_1, start_1)))
    else
      (if decide (y8 = 1) then
        ((words_appendWord_m lline_1 y1.1 start_1 (t17_1 : Int) number0).bind fun y13 =>
        words_split_k2 cont1 t17_1 (y13, (-1)))
      else
        (some (([] : List Word), false))))
  else
    (words_split_k1 lline_1 y1 start_1 number0 ())
def words_split_m (text0 : Str) (number0 : Int) : Option ((List Word) × Bool) :=
  (strings_Cut_m text0 (⟨[35]⟩ : Str)).bind fun y1 =>
  chk (decide ((y1.1.l.length : Int) ≤ 9223372036854775807)) <|
  iter (words_split_b1 y1 number0) FUEL (([] : List Word), (-1), 0)
theorem words_split_spec (S : Soup) (w : World) (text0 : Str) (number0 : Int) (y : (List Word) × Bool) (hM : words_split_m text0 number0 = some y) (hS : ∀ k, S k → k < w.heap.size)  :
    Calls Tryd.prog 69 #[.string text0.ba, .int .i64 number0] w (Post (β := (GoRep.R (List Word))) S [] (fun g => .tuple #[.slice g.a y.1.length g.cap, .bool y.2]) (fun g => [trow 83 g y.1]) w) := by
  refine calls_cw (args := [_, _]) Tryd.func69 rfl ((pre_nil hS).start) rfl ?_
  unfold words_split_m at hM
  refine cw_seq fun K1 hK1 => ?_
  refine cw_region ?_
  refine ow_ev ev_assign ?_
  refine ow_ev ev_assign ?_
  refine ow_nil (hK1 _ _ ?_); clear hK1
  refine cw_seq fun K2 hK2 => ?_
  refine cw_region ?_
  refine ow_ev ev_move ?_
  obtain ⟨y1, hy2, hM⟩ := bind_some hM
  refine ow_cons (st_callv (fun w hm => let ⟨S, hs⟩ := hm; strings_Cut_spec _ w text0 (⟨[35]⟩ : Str) y1 hy2 (lend_lt hs) ) ?_)
  refine ow_ev ev_move ?_
  refine ow_ev (ev_extract (vs := [.string y1.1.ba, .string y1.2.1.ba, .bool y1.2.2])) ?_
  refine ow_ev (ev_extract (vs := [.string y1.1.ba, .string y1.2.1.ba, .bool y1.2.2])) ?_
  refine ow_ev (ev_extract (vs := [.string y1.1.ba, .string y1.2.1.ba, .bool y1.2.2])) ?_
  refine ow_ev ev_assign ?_
  refine ow_nil (hK2 _ _ ?_); clear hK2
  refine cw_seq fun K3 hK3 => ?_
  refine cw_region ?_
  refine ow_ev ev_assign ?_
  refine ow_nil (hK3 _ _ ?_); clear hK3
  refine cw_seq fun K4 hK4 => ?_
  refine cw_region ?_
  refine ow_ev ev_assign ?_
  refine ow_nil (hK4 _ _ ?_); clear hK4
  refine cw_seq fun K5 hK5 => ?_
  refine cw_seq fun K6 hK6 => ?_
  refine cw_region ?_
  refine ow_ev ev_move ?_
  obtain ⟨hl3, hM⟩ := chk_some hM
  replace hl3 := of_decide_eq_true hl3
  refine ow_ev ev_slen ?_
  refine ow_ev ev_move ?_
  refine ow_nil (hK6 _ _ ?_); clear hK6
  refine cw_block ?_
  refine cw_imp (fun w hm => hm.row_nil (α := Word) 83 (fun _ => ())) ?_
  refine cw_loop (γ := Nat × ((List Word) × Int × Nat) × (SR (GoRep.R Word))) (env := fun (_, (lline_1, start_1, t17_1), rline_1) => [(0, .v (.string y1.1.ba)), (1, .v (.int .i64 number0)), (6, .v (.slice rline_1.a lline_1.length rline_1.cap)), (7, .v (.int .i64 start_1)), (16, .v (.int .i64 (y1.1.l.length : Int))), (17, .v (.int .i64 (t17_1 : Int)))]) (mem := fun (_, (lline_1, start_1, t17_1), rline_1) => [trow 83 rline_1 lline_1]) (R := fun g => iter (words_split_b1 y1 number0) g.1 g.2.1 = some y) (μ := fun g => g.1) (FUEL, (([] : List Word), (-1), 0), (⟨none, 0, (fun _ => ())⟩ : SR (GoRep.R Word) )) hM ⟨rfl, rfl, rfl, rfl, rfl, rfl, trivial⟩ (fun w hm => hm.reord) ?_
  clear hM
  intro g hM KL1 hL1
  obtain ⟨nn1, ⟨lline_1, start_1, t17_1⟩, rline_1⟩ := g
  dsimp only at hM ⊢
  obtain ⟨nn1, cont1, rfl, hcont1, hM⟩ := iter_open' hM
  dsimp only [words_split_b1] at hM
  refine cw_seq fun K7 hK7 => ?_
  refine cw_region ?_
  refine ow_ev ev_lss ?_
  refine ow_nil (hK7 _ _ ?_); clear hK7
  refine cw_seq fun K8 hK8 => ?_
  refine cw_cond rfl (fun hc5 => ?_) (fun hc5 => ?_)
  ·
    replace hM := (ite_t hc5).symm.trans hM
    have hc5d := of_decide_eq_true hc5
    refine cw_skip (hK8 _ _ ?_); clear hK8
    refine cw_cut (γ := ((List Word) × Int) × (SR (GoRep.R Word))) (env := fun ((lline_j2, start_j2), rline_j2) => [(0, .v (.string y1.1.ba)), (1, .v (.int .i64 number0)), (6, .v (.slice rline_j2.a lline_j2.length rline_j2.cap)), (7, .v (.int .i64 start_j2)), (16, .v (.int .i64 (y1.1.l.length : Int))), (17, .v (.int .i64 (t17_1 : Int)))]) (mem := fun ((lline_j2, start_j2), rline_j2) => [trow 83 rline_j2 lline_j2]) (R := fun g => words_split_k2 cont1 t17_1 g.1 = some y) ?_ ?_
    · intro KJ2 hJ2
      refine cw_block ?_
      refine cw_seq fun K9 hK9 => ?_
      refine cw_region ?_
      refine ow_ev ev_move ?_
      refine ow_ev ev_assign ?_
      refine ow_nil (hK9 _ _ ?_); clear hK9
      refine cw_seq fun K10 hK10 => ?_
      refine cw_region ?_
      refine ow_ev ev_move ?_
      refine ow_ev ev_move ?_
      obtain ⟨c6, hc_7, hM⟩ := bind_some hM
      refine ow_ev (ev_sidx (fun _ => hc_7)) ?_
      obtain ⟨y8, hy9, hM⟩ := bind_some hM
      refine ow_cons (st_callv (fun w hm => let ⟨S, hs⟩ := hm; words_class_spec _ w c6 y8 hy9 (lend_lt hs) ) ?_)
      refine ow_nil (hK10 _ _ ?_); clear hK10
      refine cw_block ?_
      refine cw_seq fun K11 hK11 => ?_
      refine cw_region ?_
      refine ow_ev ev_eql ?_
      refine ow_ev ev_assign ?_
      refine ow_nil (hK11 _ _ ?_); clear hK11
      refine cw_cond rfl (fun hc10 => ?_) (fun hc10 => ?_)
      ·
        replace hM := (ite_t hc10).symm.trans hM
        refine cw_seq fun K12 hK12 => ?_
        refine cw_region ?_
        refine ow_ev ev_move ?_
        refine ow_ev ev_lss ?_
        refine ow_nil (hK12 _ _ ?_); clear hK12
        refine cw_cond rfl (fun hc11 => ?_) (fun hc11 => ?_)
        ·
          replace hM := (ite_t hc11).symm.trans hM
          refine cw_region ?_
          refine ow_ev ev_move ?_
          refine ow_ev ev_assign ?_
          refine ow_nil (hJ2 ((lline_1, (t17_1 : Int)), rline_1) _ _ hM ⟨rfl, rfl, rfl, rfl, rfl, rfl, trivial⟩ (fun w hm => hm.reord))
        ·
          replace hM := (ite_f hc11).symm.trans hM
          refine cw_skip (hJ2 ((lline_1, start_1), rline_1) _ _ hM ⟨rfl, rfl, rfl, rfl, rfl, rfl, trivial⟩ (fun w hm => hm.reord))
      ·
        replace hM := (ite_f hc10).symm.trans hM
        refine cw_seq fun K13 hK13 => ?_
        refine cw_region ?_
        refine ow_ev ev_eql ?_
        refine ow_ev ev_assign ?_
        refine ow_nil (hK13 _ _ ?_); clear hK13
        refine cw_cond rfl (fun hc12 => ?_) (fun hc12 => ?_)
        ·
          replace hM := (ite_t hc12).symm.trans hM
          refine cw_seq fun K14 hK14 => ?_
          refine cw_region ?_
          refine ow_ev ev_move ?_
          refine ow_ev ev_move ?_
          refine ow_ev ev_move ?_
          refine ow_ev ev_move ?_
          refine ow_ev ev_move ?_
          obtain ⟨y13, hy14, hM⟩ := bind_some hM
          refine ow_cons (st_callF (by repeat (first | exact SelL.nil | (apply SelL.cons; · (repeat (first | exact Sel.head | apply Sel.tail))))) (fun S w hs hP => words_appendWord_spec _ w lline_1 rline_1 y1.1 start_1 (t17_1 : Int) number0 y13 hy14 hP ) (by intro r c hc; simp only [List.mem_cons, List.not_mem_nil, or_false] at hc; rcases hc with rfl | rfl <;> first | exact flatC_own | exact flatC_trow (fun _ _ _ _ => trivial)) (fun r15 => ?_))
          dsimp only [List.cons_append, List.nil_append]
          refine ow_ev ev_assign ?_
          refine ow_nil (hK14 _ _ ?_); clear hK14
          refine cw_region ?_
          refine ow_ev ev_assign ?_
          refine ow_nil (hJ2 ((y13, (-1)), r15) _ _ hM ⟨rfl, rfl, rfl, rfl, rfl, rfl, trivial⟩ (fun w hm => hm.reord))
        ·
          replace hM := (ite_f hc12).symm.trans hM
          refine cw_seq fun K15 hK15 => ?_
          refine cw_region ?_
          refine ow_ev ev_assign ?_
          refine ow_ev ev_assign ?_
          refine ow_nil (hK15 _ _ ?_); clear hK15
          refine cw_imp (fun w hm => hm.row_nil (α := Word) 83 (fun _ => ())) ?_
          obtain rfl := some_inj hM
          refine cw_ret (kw_retc2 (fun w hm => post_of (⟨none, 0, (fun _ => ())⟩ : SR (GoRep.R Word)           ) hm rfl))
    ·
      clear hM
      intro g hM
      obtain ⟨⟨lline_j2, start_j2⟩, rline_j2⟩ := g
      dsimp only at hM ⊢
      dsimp only [words_split_k2] at hM
      refine cw_region ?_
      refine ow_ev (ev_add (hr := fun _ => by unfold I64; omega)) ?_
      refine ow_ev ev_move ?_
      refine ow_nil (hL1 (nn1, (lline_j2, start_j2, t17_1 + 1), rline_j2) _ _ (eqc hcont1 hM) (Nat.lt_succ_self _) ⟨rfl, rfl, rfl, rfl, rfl, rfl, trivial⟩ (fun w hm => hm.reord))
  ·
    replace hM := (ite_f hc5).symm.trans hM
    refine cw_exit (hK5 _ _ ?_); clear hK5
    dsimp only [words_split_k1] at hM
    refine cw_seq fun K16 hK16 => ?_
    refine cw_region ?_
    refine ow_ev ev_move ?_
    refine ow_ev ev_move ?_
    refine ow_ev ev_move ?_
    refine ow_ev ev_move ?_
    refine ow_ev ev_slen ?_
    refine ow_ev ev_move ?_
    obtain ⟨y17, hy18, hM⟩ := bind_some hM
    refine ow_cons (st_callF (by repeat (first | exact SelL.nil | (apply SelL.cons; · (repeat (first | exact Sel.head | apply Sel.tail))))) (fun S w hs hP => words_appendWord_spec _ w lline_1 rline_1 y1.1 start_1 (y1.1.l.length : Int) number0 y17 hy18 hP ) (by intro r c hc; simp only [List.mem_cons, List.not_mem_nil, or_false] at hc; rcases hc with rfl | rfl <;> first | exact flatC_own | exact flatC_trow (fun _ _ _ _ => trivial)) (fun r19 => ?_))
    dsimp only [List.cons_append, List.nil_append]
    refine ow_ev ev_assign ?_
    refine ow_ev ev_assign ?_
    refine ow_nil (hK16 _ _ ?_); clear hK16
    obtain rfl := some_inj hM
    refine cw_ret (kw_retc2 (fun w hm => post_of r19 hm rfl))

end Go.Proofs.YtohhihdjdelckaaDoor

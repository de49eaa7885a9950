/- Models of functions, and that the code computes them. -/
import Derived.Test.YtfbpbmnlbcnanaaDoorWd
import Derived.Test.YtfbpbmnlbcnanaaDoorWj
import Derived.Test.YtfbpbmnlbcnanaaDoorWf
namespace Go.Proofs.YtfbpbmnlbcnanaaDoor
open Go.Dc Go.RowKit
set_option maxRecDepth 10000
set_option linter.unusedVariables false
def law3_WordsExamples_m  : Option Bool :=
  (words_Lines_m (⟨[97, 32, 32, 98, 32, 35, 32, 99, 10, 10, 32, 100]⟩ : Str)).bind fun y1 =>
  (words_Number_m (⟨[45, 48]⟩ : Str)).bind fun y4 =>
  (words_Number_m (⟨[48, 48, 55]⟩ : Str)).bind fun y6 =>
  (words_Range_m (⟨[51, 46, 46, 57]⟩ : Str)).bind fun y8 =>
  (whn ((decide (y1.2.2 = 0) && decide (y1.2.1 = 0)) && decide ((y1.1.length : Int) = 2)) default (idx y1.1 0)).bind fun x10 =>
  if ((decide (y1.2.2 = 0) && decide (y1.2.1 = 0)) && decide ((y1.1.length : Int) = 2)) then
  ((keep_Same_api_Word_m x10 ([(Word.mk (⟨[97]⟩ : Str) 1 1), (Word.mk (⟨[98]⟩ : Str) 1 4)] : List Word)).bind fun y15 =>
  (whn (((decide (y1.2.2 = 0) && decide (y1.2.1 = 0)) && decide ((y1.1.length : Int) = 2)) && y15) default (idx y1.1 1)).bind fun x17 =>
  if (((decide (y1.2.2 = 0) && decide (y1.2.1 = 0)) && decide ((y1.1.length : Int) = 2)) && y15) then
  ((keep_Same_api_Word_m x17 ([(Word.mk (⟨[100]⟩ : Str) 3 2)] : List Word)).bind fun y22 =>
  some (((((((((decide (y1.2.2 = 0) && decide (y1.2.1 = 0)) && decide ((y1.1.length : Int) = 2)) && y15) && y22) && (!y4.2)) && (!y6.2)) && decide (y8.1 = 3)) && decide (y8.2.1 = 9)) && y8.2.2))
  else
  (some (((((false && (!y4.2)) && (!y6.2)) && decide (y8.1 = 3)) && decide (y8.2.1 = 9)) && y8.2.2)))
  else
  ((whn false default (idx y1.1 1)).bind fun x24 =>
  if false then
  ((keep_Same_api_Word_m x24 ([(Word.mk (⟨[100]⟩ : Str) 3 2)] : List Word)).bind fun y29 =>
  some ((((((false && y29) && (!y4.2)) && (!y6.2)) && decide (y8.1 = 3)) && decide (y8.2.1 = 9)) && y8.2.2))
  else
  (some false))
theorem law3_WordsExamples_spec (S : Soup) (w : World)  (y : Bool) (hM : law3_WordsExamples_m  = some y) (hS : ∀ k, S k → k < w.heap.size) (hg_0 : (gint 0).φ S w) :
    Calls Tryd.prog 3 #[] w (Ret w (.bool y)) := by
  refine calls_cw (args := []) Tryd.func3 rfl ((pre_nil hS).start |>.factP (c := gint 0) (fun _ h => False.elim h) hg_0) rfl ?_
  unfold law3_WordsExamples_m at hM
  refine cw_seq fun K1 hK1 => ?_
  refine cw_region ?_
  refine ow_ev ev_assign ?_
  refine ow_nil (hK1 _ _ ?_); clear hK1
  refine cw_seq fun K2 hK2 => ?_
  refine cw_region ?_
  obtain ⟨y1, hy2, hM⟩ := bind_some hM
  refine ow_cons (st_callS SelL.nil (fun S w hs hP => words_Lines_spec _ w (⟨[97, 32, 32, 98, 32, 35, 32, 99, 10, 10, 32, 100]⟩ : Str) y1 hy2 hs.lt )  (fun r3 => ?_))
  dsimp only [List.cons_append, List.nil_append]
  refine ow_ev ev_move ?_
  refine ow_ev (ev_extract (vs := [.slice r3.a y1.1.length r3.cap, .int .i64 y1.2.1, .int .i64 y1.2.2])) ?_
  refine ow_ev (ev_extract (vs := [.slice r3.a y1.1.length r3.cap, .int .i64 y1.2.1, .int .i64 y1.2.2])) ?_
  refine ow_ev (ev_extract (vs := [.slice r3.a y1.1.length r3.cap, .int .i64 y1.2.1, .int .i64 y1.2.2])) ?_
  refine ow_ev ev_assign ?_
  refine ow_ev ev_assign ?_
  refine ow_ev ev_assign ?_
  refine ow_nil (hK2 _ _ ?_); clear hK2
  refine cw_seq fun K3 hK3 => ?_
  refine cw_region ?_
  obtain ⟨y4, hy5, hM⟩ := bind_some hM
  refine ow_cons (st_callv (fun w hm => let ⟨S, hs⟩ := hm; words_Number_spec _ w (⟨[45, 48]⟩ : Str) y4 hy5 (lend_lt hs) ) ?_)
  refine ow_ev ev_move ?_
  refine ow_ev (ev_extract (vs := [.int .i64 y4.1, .bool y4.2])) ?_
  refine ow_ev (ev_extract (vs := [.int .i64 y4.1, .bool y4.2])) ?_
  refine ow_ev ev_assign ?_
  refine ow_ev ev_assign ?_
  refine ow_nil (hK3 _ _ ?_); clear hK3
  refine cw_seq fun K4 hK4 => ?_
  refine cw_region ?_
  obtain ⟨y6, hy7, hM⟩ := bind_some hM
  refine ow_cons (st_callv (fun w hm => let ⟨S, hs⟩ := hm; words_Number_spec _ w (⟨[48, 48, 55]⟩ : Str) y6 hy7 (lend_lt hs) ) ?_)
  refine ow_ev ev_move ?_
  refine ow_ev (ev_extract (vs := [.int .i64 y6.1, .bool y6.2])) ?_
  refine ow_ev (ev_extract (vs := [.int .i64 y6.1, .bool y6.2])) ?_
  refine ow_ev ev_assign ?_
  refine ow_ev ev_assign ?_
  refine ow_nil (hK4 _ _ ?_); clear hK4
  refine cw_seq fun K5 hK5 => ?_
  refine cw_region ?_
  obtain ⟨y8, hy9, hM⟩ := bind_some hM
  refine ow_cons (st_callv (fun w hm => let ⟨S, hs⟩ := hm; words_Range_spec _ w (⟨[51, 46, 46, 57]⟩ : Str) y8 hy9 (lend_lt hs) (Chunk.mono _ _ _ _ (fun _ h => .inl h) (((by repeat (first | exact Has.head | apply Has.tail)) : Has _ (gint 0)).φ hs))) ?_)
  refine ow_ev ev_move ?_
  refine ow_ev (ev_extract (vs := [.int .i64 y8.1, .int .i64 y8.2.1, .bool y8.2.2])) ?_
  refine ow_ev (ev_extract (vs := [.int .i64 y8.1, .int .i64 y8.2.1, .bool y8.2.2])) ?_
  refine ow_ev (ev_extract (vs := [.int .i64 y8.1, .int .i64 y8.2.1, .bool y8.2.2])) ?_
  refine ow_ev ev_assign ?_
  refine ow_ev ev_assign ?_
  refine ow_ev ev_assign ?_
  refine ow_nil (hK5 _ _ ?_); clear hK5
  refine cw_seq fun K6 hK6 => ?_
  refine cw_region ?_
  refine ow_ev ev_move ?_
  refine ow_ev ev_eql ?_
  refine ow_ev ev_move ?_
  refine ow_evg rfl ev_move ?_
  refine ow_evg rfl ev_eql ?_
  refine ow_ev ev_and ?_
  refine ow_ev ev_move ?_
  refine ow_evg rfl ev_move ?_
  refine ow_evg rfl ev_len ?_
  refine ow_evg rfl ev_eql ?_
  refine ow_ev ev_and ?_
  refine ow_ev ev_move ?_
  refine ow_evg rfl ev_move ?_
  obtain ⟨x10, hx11, hM⟩ := bind_some hM
  refine ow_evg rfl (ev_idx (xs := y1.1) 1 (Kn.trow (e := 33) (r := r3) (by repeat (first | exact Has.head | apply Has.tail))) (fun hg => let h := idx_some (whn_some hx11 hg); ⟨h.1, h.2.1⟩)) ?_
  refine ow_cases ((decide (y1.2.2 = 0) && decide (y1.2.1 = 0)) && decide ((y1.1.length : Int) = 2)) (fun hg12 => ?_) (fun hg12 => ?_)
  ·
    replace hM := (ite_t hg12).symm.trans hM
    have hx13 := whn_some hx11 hg12
    refine ow_know 41 hg12 rfl ?_
    refine ow_know 42 hg12 rfl ?_
    refine ow_gtrue rfl hg12 ?_
    refine ow_ev (ev_ld (i := 0) (xs := y1.1) (y := x10) 0 (Kn.trow (e := 33) (r := r3) (by repeat (first | exact Has.head | apply Has.tail))) (fun _ => hx13)) ?_
    refine ow_gtrue rfl hg12 ?_
    refine ow_ev (ev_build [.string (⟨[97]⟩ : Str).ba, .int .i64 1, .int .i64 1]) ?_
    refine ow_gtrue rfl hg12 ?_
    refine ow_ev (ev_build [.string (⟨[98]⟩ : Str).ba, .int .i64 1, .int .i64 4]) ?_
    refine ow_gtrue rfl hg12 ?_
    refine ow_cons (st_bslice (α := Word) 32 (fun _ => ()) ([(Word.mk (⟨[97]⟩ : Str) 1 1), (Word.mk (⟨[98]⟩ : Str) 1 4)] : List Word) (OkL.flat (fun _ _ _ _ => trivial)) (fun r14 => ?_))
    refine ow_gtrue rfl hg12 ?_
    obtain ⟨y15, hy16, hM⟩ := bind_some hM
    refine ow_cons (st_callv (fun w hm => let ⟨S, hs⟩ := hm; keep_Same_api_Word_spec _ w x10 (r3.es (0 : Int).toNat) ([(Word.mk (⟨[97]⟩ : Str) 1 1), (Word.mk (⟨[98]⟩ : Str) 1 4)] : List Word) r14 y15 hy16 (lend_lt hs) (Kn.lend ((Sk.row (e := 33) (r := r3) (by repeat (first | exact Has.head | apply Has.tail)) hx13)).kn hs) (Kn.lend (Kn.trow (e := 32) (r := r14) (by repeat (first | exact Has.head | apply Has.tail))) hs)) ?_)
    refine ow_ev ev_and ?_
    refine ow_ev ev_move ?_
    refine ow_evg rfl ev_move ?_
    obtain ⟨x17, hx18, hM⟩ := bind_some hM
    refine ow_evg rfl (ev_idx (xs := y1.1) 1 (Kn.trow (e := 33) (r := r3) (by repeat (first | exact Has.head | apply Has.tail))) (fun hg => let h := idx_some (whn_some hx18 hg); ⟨h.1, h.2.1⟩)) ?_
    refine ow_cases (((decide (y1.2.2 = 0) && decide (y1.2.1 = 0)) && decide ((y1.1.length : Int) = 2)) && y15) (fun hg19 => ?_) (fun hg19 => ?_)
    ·
      replace hM := (ite_t hg19).symm.trans hM
      have hx20 := whn_some hx18 hg19
      refine ow_know 50 hg19 rfl ?_
      refine ow_know 51 hg19 rfl ?_
      refine ow_gtrue rfl hg19 ?_
      refine ow_ev (ev_ld (i := 1) (xs := y1.1) (y := x17) 0 (Kn.trow (e := 33) (r := r3) (by repeat (first | exact Has.head | apply Has.tail))) (fun _ => hx20)) ?_
      refine ow_gtrue rfl hg19 ?_
      refine ow_ev (ev_build [.string (⟨[100]⟩ : Str).ba, .int .i64 3, .int .i64 2]) ?_
      refine ow_gtrue rfl hg19 ?_
      refine ow_cons (st_bslice (α := Word) 32 (fun _ => ()) ([(Word.mk (⟨[100]⟩ : Str) 3 2)] : List Word) (OkL.flat (fun _ _ _ _ => trivial)) (fun r21 => ?_))
      refine ow_gtrue rfl hg19 ?_
      obtain ⟨y22, hy23, hM⟩ := bind_some hM
      refine ow_cons (st_callv (fun w hm => let ⟨S, hs⟩ := hm; keep_Same_api_Word_spec _ w x17 (r3.es (1 : Int).toNat) ([(Word.mk (⟨[100]⟩ : Str) 3 2)] : List Word) r21 y22 hy23 (lend_lt hs) (Kn.lend ((Sk.row (e := 33) (r := r3) (by repeat (first | exact Has.head | apply Has.tail)) hx20)).kn hs) (Kn.lend (Kn.trow (e := 32) (r := r21) (by repeat (first | exact Has.head | apply Has.tail))) hs)) ?_)
      refine ow_ev ev_and ?_
      refine ow_ev ev_move ?_
      refine ow_evg rfl ev_move ?_
      refine ow_evg rfl ev_not ?_
      refine ow_ev ev_and ?_
      refine ow_ev ev_move ?_
      refine ow_evg rfl ev_move ?_
      refine ow_evg rfl ev_not ?_
      refine ow_ev ev_and ?_
      refine ow_ev ev_move ?_
      refine ow_evg rfl ev_move ?_
      refine ow_evg rfl ev_eql ?_
      refine ow_ev ev_and ?_
      refine ow_ev ev_move ?_
      refine ow_evg rfl ev_move ?_
      refine ow_evg rfl ev_eql ?_
      refine ow_ev ev_and ?_
      refine ow_ev ev_move ?_
      refine ow_evg rfl ev_move ?_
      refine ow_ev ev_and ?_
      refine ow_ev ev_assign ?_
      refine ow_nil (hK6 _ _ ?_); clear hK6
      obtain rfl := some_inj hM
      refine cw_ret (kw_retc1 (fun w hm => ret_of hm rfl))
    ·
      replace hM := (ite_f hg19).symm.trans hM
      refine ow_gskip rfl hg19 ?_
      refine ow_gskip rfl hg19 ?_
      refine ow_gskip rfl hg19 ?_
      refine ow_gskip rfl hg19 ?_
      refine ow_ev (ev_andF hg19) ?_
      refine ow_ev ev_move ?_
      refine ow_evg rfl ev_move ?_
      refine ow_evg rfl ev_not ?_
      refine ow_ev ev_and ?_
      refine ow_ev ev_move ?_
      refine ow_evg rfl ev_move ?_
      refine ow_evg rfl ev_not ?_
      refine ow_ev ev_and ?_
      refine ow_ev ev_move ?_
      refine ow_evg rfl ev_move ?_
      refine ow_evg rfl ev_eql ?_
      refine ow_ev ev_and ?_
      refine ow_ev ev_move ?_
      refine ow_evg rfl ev_move ?_
      refine ow_evg rfl ev_eql ?_
      refine ow_ev ev_and ?_
      refine ow_ev ev_move ?_
      refine ow_evg rfl ev_move ?_
      refine ow_ev ev_and ?_
      refine ow_ev ev_assign ?_
      refine ow_nil (hK6 _ _ ?_); clear hK6
      obtain rfl := some_inj hM
      refine cw_ret (kw_retc1 (fun w hm => ret_of hm rfl))
  ·
    replace hM := (ite_f hg12).symm.trans hM
    refine ow_gskip rfl hg12 ?_
    refine ow_gskip rfl hg12 ?_
    refine ow_gskip rfl hg12 ?_
    refine ow_gskip rfl hg12 ?_
    refine ow_gskip rfl hg12 ?_
    refine ow_ev (ev_andF hg12) ?_
    refine ow_ev ev_move ?_
    refine ow_evg rfl ev_move ?_
    obtain ⟨x24, hx25, hM⟩ := bind_some hM
    refine ow_evg rfl (ev_idx (xs := y1.1) 1 (Kn.trow (e := 33) (r := r3) (by repeat (first | exact Has.head | apply Has.tail))) (fun hg => let h := idx_some (whn_some hx25 hg); ⟨h.1, h.2.1⟩)) ?_
    refine ow_cases false (fun hg26 => ?_) (fun hg26 => ?_)
    ·
      replace hM := (ite_t hg26).symm.trans hM
      have hx27 := whn_some hx25 hg26
      refine ow_know 50 hg26 rfl ?_
      refine ow_know 51 hg26 rfl ?_
      refine ow_gtrue rfl hg26 ?_
      refine ow_ev (ev_ld (i := 1) (xs := y1.1) (y := x24) 0 (Kn.trow (e := 33) (r := r3) (by repeat (first | exact Has.head | apply Has.tail))) (fun _ => hx27)) ?_
      refine ow_gtrue rfl hg26 ?_
      refine ow_ev (ev_build [.string (⟨[100]⟩ : Str).ba, .int .i64 3, .int .i64 2]) ?_
      refine ow_gtrue rfl hg26 ?_
      refine ow_cons (st_bslice (α := Word) 32 (fun _ => ()) ([(Word.mk (⟨[100]⟩ : Str) 3 2)] : List Word) (OkL.flat (fun _ _ _ _ => trivial)) (fun r28 => ?_))
      refine ow_gtrue rfl hg26 ?_
      obtain ⟨y29, hy30, hM⟩ := bind_some hM
      refine ow_cons (st_callv (fun w hm => let ⟨S, hs⟩ := hm; keep_Same_api_Word_spec _ w x24 (r3.es (1 : Int).toNat) ([(Word.mk (⟨[100]⟩ : Str) 3 2)] : List Word) r28 y29 hy30 (lend_lt hs) (Kn.lend ((Sk.row (e := 33) (r := r3) (by repeat (first | exact Has.head | apply Has.tail)) hx27)).kn hs) (Kn.lend (Kn.trow (e := 32) (r := r28) (by repeat (first | exact Has.head | apply Has.tail))) hs)) ?_)
      refine ow_ev ev_and ?_
      refine ow_ev ev_move ?_
      refine ow_evg rfl ev_move ?_
      refine ow_evg rfl ev_not ?_
      refine ow_ev ev_and ?_
      refine ow_ev ev_move ?_
      refine ow_evg rfl ev_move ?_
      refine ow_evg rfl ev_not ?_
      refine ow_ev ev_and ?_
      refine ow_ev ev_move ?_
      refine ow_evg rfl ev_move ?_
      refine ow_evg rfl ev_eql ?_
      refine ow_ev ev_and ?_
      refine ow_ev ev_move ?_
      refine ow_evg rfl ev_move ?_
      refine ow_evg rfl ev_eql ?_
      refine ow_ev ev_and ?_
      refine ow_ev ev_move ?_
      refine ow_evg rfl ev_move ?_
      refine ow_ev ev_and ?_
      refine ow_ev ev_assign ?_
      refine ow_nil (hK6 _ _ ?_); clear hK6
      obtain rfl := some_inj hM
      refine cw_ret (kw_retc1 (fun w hm => ret_of hm rfl))
    ·
      replace hM := (ite_f hg26).symm.trans hM
      refine ow_gskip rfl hg26 ?_
      refine ow_gskip rfl hg26 ?_
      refine ow_gskip rfl hg26 ?_
      refine ow_gskip rfl hg26 ?_
      refine ow_ev (ev_andF hg26) ?_
      refine ow_ev ev_move ?_
      refine ow_gskip rfl hg26 ?_
      refine ow_gskip rfl hg26 ?_
      refine ow_ev (ev_andF hg26) ?_
      refine ow_ev ev_move ?_
      refine ow_gskip rfl hg26 ?_
      refine ow_gskip rfl hg26 ?_
      refine ow_ev (ev_andF hg26) ?_
      refine ow_ev ev_move ?_
      refine ow_gskip rfl hg26 ?_
      refine ow_gskip rfl hg26 ?_
      refine ow_ev (ev_andF hg26) ?_
      refine ow_ev ev_move ?_
      refine ow_gskip rfl hg26 ?_
      refine ow_gskip rfl hg26 ?_
      refine ow_ev (ev_andF hg26) ?_
      refine ow_ev ev_move ?_
      refine ow_gskip rfl hg26 ?_
      refine ow_ev (ev_andF hg26) ?_
      refine ow_ev ev_assign ?_
      refine ow_nil (hK6 _ _ ?_); clear hK6
      obtain rfl := some_inj hM
      refine cw_ret (kw_retc1 (fun w hm => ret_of hm rfl))

end Go.Proofs.YtfbpbmnlbcnanaaDoor

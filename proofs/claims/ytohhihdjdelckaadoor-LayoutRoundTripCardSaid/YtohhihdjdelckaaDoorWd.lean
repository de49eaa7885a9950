/- words.Lines, walked by hand: a range over strings.SplitSeq. -/
import Derived.Test.YtohhihdjdelckaaDoorWc
set_option linter.all false
namespace Go.Proofs.YtohhihdjdelckaaDoor
open Go.Dc Go.RowKit
set_option maxRecDepth 10000

/-- One line of the text: what is known then, or the line and the error. -/
def lineStep (t : Str) (number : Int) (lines : List (List Word)) : Option ((Int × List (List Word)) ⊕ (Int × Int)) :=
  chk (i64b (number + 1)) <|
  (words_split_m t (number + 1)).bind fun y =>
  if (!y.2) then some (.inr (number + 1, 2)) else
  if decide (64 < (y.1.length : Int)) then some (.inr (number + 1, 7)) else
  if decide (0 < (y.1.length : Int)) then (chk (decide ((lines.length + ([y.1] : List (List Word)).length) * 24 ≤ 140737488355328)) <| some (.inl (number + 1, lines ++ [y.1]))) else
  some (.inl (number + 1, lines))
def lineEnd : (Int × List (List Word)) ⊕ (Int × Int) → Option ((List (List Word)) × Int × Int)
  | .inl q => some (q.2, 0, 0)
  | .inr q => some ([], q.1, q.2)
def lineOn (k : Int → List (List Word) → Option ((List (List Word)) × Int × Int)) : (Int × List (List Word)) ⊕ (Int × Int) → Option ((List (List Word)) × Int × Int)
  | .inl q => k q.1 q.2
  | .inr q => some ([], q.1, q.2)
def linesF : Nat → Str → Int → List (List Word) → Option ((List (List Word)) × Int × Int)
  | 0, _, _, _ => none
  | f + 1, s, number, lines =>
    if decide (Lib.indexByte s.l 10 < 0) then (lineStep s number lines).bind lineEnd
    else chk (i64b (Lib.indexByte s.l 10 + 0)) <|
      (strSub s 0 (Lib.indexByte s.l 10 + 0)).bind fun t =>
      (lineStep t number lines).bind <| lineOn fun number' lines' =>
        chk (i64b (Lib.indexByte s.l 10 + ((⟨[10]⟩ : Str).l.length : Int))) <|
        (strSub s (Lib.indexByte s.l 10 + ((⟨[10]⟩ : Str).l.length : Int)) (s.l.length : Int)).bind fun s' => linesF f s' number' lines'
def words_Lines_m (src0 : Str) : Option ((List (List Word)) × Int × Int) :=
  if decide (65536 < (src0.l.length : Int)) then some ([], 0, 7) else linesF FUEL src0 0 []

/-! ### The iterator -/
section
variable (bsep bs bsave b6 b5 b4 b3 b2 : Nat)
abbrev HL (s : Str) (number : Int) (lines : List (List Word)) (r : SR (GoRep.R (List Word))) : List Chunk :=
  [own bsep 9 [.string (⟨[10]⟩ : Str).ba], own bs 9 [.string s.ba], own bsave 3 [.int .i64 0], own b6 3 [.int .i64 number], own b5 76 [.slice r.a lines.length r.cap], trow 79 r lines, own b4 33 [.int .i64 0], own b3 3 [.int .i64 0], own b2 76 [.slice none 0 0]]
abbrev HX (s : Str) (line err : Int) (lines : List (List Word)) (r : SR (GoRep.R (List Word))) : List Chunk :=
  [own bsep 9 [.string (⟨[10]⟩ : Str).ba], own bs 9 [.string s.ba], own bsave 3 [.int .i64 0], own b6 3 [.int .i64 line], own b5 76 [.slice r.a lines.length r.cap], trow 79 r lines, own b4 33 [.int .i64 err], own b3 3 [.int .i64 line], own b2 76 [.slice none 0 0]]
def RTn (z : (Int × List (List Word)) ⊕ (Int × Int)) (s : Str) (H2 : List Chunk) : Prop := ∃ q r', z = .inl q ∧ H2 = HL bsep bs bsave b6 b5 b4 b3 b2 s q.1 q.2 r'
def RTr (z : (Int × List (List Word)) ⊕ (Int × Int)) (s : Str) (H2 : List Chunk) : Prop := ∃ q lines r', z = .inr q ∧ H2 = HX bsep bs bsave b6 b5 b4 b3 b2 s q.1 q.2 lines r'
def WTn (y : (List (List Word)) × Int × Int) (H2 : List Chunk) : Prop := ∃ s number r, y = (y.1, 0, 0) ∧ H2 = HL bsep bs bsave b6 b5 b4 b3 b2 s number y.1 r
def WTr (y : (List (List Word)) × Int × Int) (H2 : List Chunk) : Prop := ∃ s lines r, y = ([], y.2.1, y.2.2) ∧ H2 = HX bsep bs bsave b6 b5 b4 b3 b2 s y.2.1 y.2.2 lines r

theorem iter_spec {κ : Ctx} {L D nL p : Nat} {ρL : Env} {assign body : Code} (hp : Nat.blt p nL = true)
    (hround : ∀ (κ' : Ctx) (F : Fence), Wd F → ∀ (t s : Str) (number : Int) (lines : List (List Word)) (r : SR (GoRep.R (List Word))) z, lineStep t number lines = some z → ∀ Ka : Act → World → Prop,
      (∀ ρ2, CWi F Tryd.prog nL κ' body (RQ κ' (lrec L D nL ρL #[p] assign body .busy none) (RTn bsep bs bsave b6 b5 b4 b3 b2 z s) (RTr bsep bs bsave b6 b5 b4 b3 b2 z s)) ρ2 (lrec L D nL ρL #[p] assign body .busy none :: HL bsep bs bsave b6 b5 b4 b3 b2 s number lines r) → KW nL κ' Ka ρ2 (lrec L D nL ρL #[p] assign body .ready none :: HL bsep bs bsave b6 b5 b4 b3 b2 s number lines r)) →
      CWi F Tryd.prog nL κ' assign (Exit.then Ka (fun _ _ _ => False)) ((p, .v (.string t.ba)) :: ρL) (lrec L D nL ρL #[p] assign body .ready none :: HL bsep bs bsave b6 b5 b4 b3 b2 s number lines r))
    (f : Nat) (s : Str) (number : Int) (lines : List (List Word)) (r : SR (GoRep.R (List Word))) (y : (List (List Word)) × Int × Int) (hM : linesF f s number lines = some y) (w : World)
    (hm : Mem κ (lrec L D nL ρL #[p] assign body .ready none :: HL bsep bs bsave b6 b5 b4 b3 b2 s number lines r) w) :
    Calls Tryd.prog 102 (.func (.yield L) #[] #[] :: [.pointer (some ⟨bsep, 0, none⟩), .pointer (some ⟨bs, 0, none⟩), .pointer (some ⟨bsave, 0, none⟩)]).toArray w (fun e w2 => (∃ v, e = .returned v) ∧
      ((∃ H2, WTn bsep bs bsave b6 b5 b4 b3 b2 y H2 ∧ Mem κ (lrec L D nL ρL #[p] assign body .ready none :: H2) w2) ∨ (∃ H2, WTr bsep bs bsave b6 b5 b4 b3 b2 y H2 ∧ Mem κ (lrec L D nL ρL #[p] assign body .done (some .ret) :: H2) w2))) := by
  obtain ⟨S, hs⟩ := hm
  have key : Calls Tryd.prog 102 (.func (.yield L) #[] #[] :: [.pointer (some ⟨bsep, 0, none⟩), .pointer (some ⟨bs, 0, none⟩), .pointer (some ⟨bsave, 0, none⟩)]).toArray w (fun e w2 => (∃ v, e = .returned v) ∧
      ((∃ H2, WTn bsep bs bsave b6 b5 b4 b3 b2 y H2 ∧ Mem (κof w S (lrec L D nL ρL #[p] assign body .ready none :: HL bsep bs bsave b6 b5 b4 b3 b2 s number lines r)) (lrec L D nL ρL #[p] assign body .ready none :: H2) w2) ∨ (∃ H2, WTr bsep bs bsave b6 b5 b4 b3 b2 y H2 ∧ Mem (κof w S (lrec L D nL ρL #[p] assign body .ready none :: HL bsep bs bsave b6 b5 b4 b3 b2 s number lines r)) (lrec L D nL ρL #[p] assign body .done (some .ret) :: H2) w2))) := by
    refine calls_cw Tryd.func102 rfl (mem_pre hs).start rfl ?_
    generalize κof w S (lrec L D nL ρL #[p] assign body .ready none :: HL bsep bs bsave b6 b5 b4 b3 b2 s number lines r) = κ'
    refine cw_seq fun K1 hK1 => ?_
    refine cw_seq fun K2 hK2 => ?_
    refine cw_region ?_
    refine ow_ev (ev_load_own (b := bsep)) ?_
    refine ow_ev ev_slen ?_
    refine ow_ev ev_eql ?_
    refine ow_nil (hK2 _ _ ?_); clear hK2
    refine cw_cond_false rfl (by decide) ?_
    refine cw_skip (hK1 _ _ ?_); clear hK1
    refine cw_seq fun K3 hK3 => ?_
    refine cw_block ?_
    refine cw_loop (γ := Nat × Str × Int × List (List Word) × SR (GoRep.R (List Word))) (env := fun _ => [(0, .v (.func (.yield L) #[] #[])), (1, .v (.pointer (some ⟨bsep, 0, none⟩))), (2, .v (.pointer (some ⟨bs, 0, none⟩))), (3, .v (.pointer (some ⟨bsave, 0, none⟩)))])
      (mem := fun g => lrec L D nL ρL #[p] assign body .ready none :: HL bsep bs bsave b6 b5 b4 b3 b2 g.2.1 g.2.2.1 g.2.2.2.1 g.2.2.2.2) (R := fun g => linesF g.1 g.2.1 g.2.2.1 g.2.2.2.1 = some y) (μ := fun g => g.1) (f, s, number, lines, r) hM ⟨rfl, rfl, rfl, rfl, trivial⟩ (fun w hm => hm) ?_
    clear hM
    rintro ⟨f, s, number, lines, r⟩ hM KL hL
    dsimp only at hM ⊢
    cases f with
    | zero => cases hM
    | succ f =>
      refine cw_block ?_
      refine cw_seq fun K5 hK5 => ?_
      refine cw_region ?_
      refine ow_ev (ev_load_own (b := bs)) ?_
      refine ow_ev (ev_load_own (b := bsep)) ?_
      refine ow_cons (st_callv (fun w hm => let ⟨S, hs⟩ := hm; strings_Index_spec _ w s ⟨[10]⟩ (Lib.indexByte s.l 10) rfl (lend_lt hs)) ?_)
      refine ow_ev ev_assign ?_
      refine ow_nil (hK5 _ _ ?_); clear hK5
      refine cw_seq fun K6 hK6 => ?_
      refine cw_seq fun K7 hK7 => ?_
      refine cw_region ?_
      refine ow_ev ev_move ?_
      refine ow_ev ev_lss ?_
      refine ow_nil (hK7 _ _ ?_); clear hK7
      unfold linesF at hM
      refine cw_cond rfl (fun hc => ?_) (fun hc => ?_)
      · replace hM := (ite_t hc).symm.trans hM
        refine cw_exit (hK3 _ _ ?_); clear hK3
        obtain ⟨z, hz, hM⟩ := bind_some hM
        refine cw_of_i (cwi_region ?_)
        refine owi_ev .plain ev_move ?_
        refine owi_ev .plain (ev_load_own (b := bs)) ?_
        refine owi_yield (RTn bsep bs bsave b6 b5 b4 b3 b2 z s) (RTr bsep bs bsave b6 b5 b4 b3 b2 z s) (fun F hF Ka => hround _ F hF s s number lines r z hz Ka) (fun H2 hT => ?_) (fun H2 hT => ?_) (hp := hp)
        · obtain ⟨q, r', rfl, rfl⟩ := hT
          obtain rfl := some_inj hM
          exact owi_nil (kw_end0 rfl (fun w hm => ⟨⟨_, rfl⟩, .inl ⟨_, ⟨s, q.1, r', rfl, rfl⟩, hm⟩⟩))
        · obtain ⟨q, lines', r', rfl, rfl⟩ := hT
          obtain rfl := some_inj hM
          exact owi_nil (kw_end0 rfl (fun w hm => ⟨⟨_, rfl⟩, .inr ⟨_, ⟨s, lines', r', rfl, rfl⟩, hm⟩⟩))
      · replace hM := (ite_f hc).symm.trans hM
        refine cw_skip (hK6 _ _ ?_); clear hK6
        refine cw_seq fun K8 hK8 => ?_
        refine cw_region ?_
        refine ow_ev (ev_load_own (b := bs)) ?_
        refine ow_ev ev_move ?_
        refine ow_ev (ev_load_own (b := bsave)) ?_
        obtain ⟨hI1, hM⟩ := chk_some hM
        refine ow_ev (ev_add (hr := fun hg => i64b_I64 hI1)) ?_
        obtain ⟨t, ht, hM⟩ := bind_some hM
        refine ow_ev (ev_ssub (ol := none) (oh := some (.i64, Lib.indexByte s.l 10 + 0)) (fun _ => ht)) ?_
        refine ow_ev ev_assign ?_
        refine ow_nil (hK8 _ _ ?_); clear hK8
        obtain ⟨z, hz, hM⟩ := bind_some hM
        refine cw_seq fun K9 hK9 => ?_
        refine cw_seq fun K10 hK10 => ?_
        refine cw_of_i (cwi_region ?_)
        refine owi_ev .plain ev_move ?_
        refine owi_ev .plain ev_move ?_
        refine owi_yield (RTn bsep bs bsave b6 b5 b4 b3 b2 z s) (RTr bsep bs bsave b6 b5 b4 b3 b2 z s) (fun F hF Ka => hround _ F hF t s number lines r z hz Ka) (fun H2 hT => ?_) (fun H2 hT => ?_) (hp := hp)
        · obtain ⟨q, r', rfl, rfl⟩ := hT
          refine owi_ev .plain ev_not ?_
          refine owi_nil (hK10 _ _ ?_); clear hK10
          refine cw_cond_false rfl rfl ?_
          refine cw_skip (hK9 _ _ ?_); clear hK9
          dsimp only [lineOn] at hM
          refine cw_region ?_
          refine ow_ev (ev_load_own (b := bs)) ?_
          refine ow_ev ev_move ?_
          refine ow_ev (ev_load_own (b := bsep)) ?_
          refine ow_ev ev_slen ?_
          obtain ⟨hI2, hM⟩ := chk_some hM
          refine ow_ev (ev_add (hr := fun hg => i64b_I64 hI2)) ?_
          obtain ⟨s', hs', hM⟩ := bind_some hM
          refine ow_ev (ev_ssub (ol := some (.i64, Lib.indexByte s.l 10 + ((⟨[10]⟩ : Str).l.length : Int))) (oh := none) (fun _ => hs')) ?_
          refine ow_cons (st_store_all (b := bs) (vs := [.string s'.ba]) (k := ?_))
          refine ow_nil (hL (f, s', q.1, q.2, r') _ _ hM (Nat.lt_succ_self _) ⟨rfl, rfl, rfl, rfl, trivial⟩ (fun w hm => hm))
        · obtain ⟨q, lines', r', rfl, rfl⟩ := hT
          refine owi_ev .plain ev_not ?_
          refine owi_nil (hK10 _ _ ?_); clear hK10
          refine cw_cond_true rfl rfl ?_
          obtain rfl := some_inj hM
          refine cw_ret fun w a hm ho => ?_
          exact ⟨ho.nodef, .tuple #[], by rw [results_none rfl], ⟨_, rfl⟩, .inr ⟨_, ⟨s, lines', r', rfl, rfl⟩, hm⟩⟩
  refine key.mono ?_
  rintro e w2 ⟨hv, ⟨H2, hT, hm⟩ | ⟨H2, hT, hm⟩⟩
  · exact ⟨hv, .inl ⟨H2, hT, mem_back' hs hm⟩⟩
  · exact ⟨hv, .inr ⟨H2, hT, mem_back' hs hm⟩⟩
end

/-! ### The closure -/
theorem strings_splitSeq_spec (S : Soup) (w : World) (s0 sep0 : Str) (sepSave0 : Int) (hS : ∀ k, S k → k < w.heap.size) :
    Calls Tryd.prog 86 #[.string s0.ba, .string sep0.ba, .int .i64 sepSave0] w (Post (β := Nat × Nat × Nat) S [] (fun g => .func (.func 102) #[] #[.pointer (some ⟨g.1, 0, none⟩), .pointer (some ⟨g.2.1, 0, none⟩), .pointer (some ⟨g.2.2, 0, none⟩)])
      (fun g => [own g.1 9 [.string sep0.ba], own g.2.1 9 [.string s0.ba], own g.2.2 3 [.int .i64 sepSave0]]) w) := by
  refine calls_cw (args := [_, _, _]) Tryd.func86 rfl (pre_nil hS).start rfl ?_
  refine cw_seq fun K1 hK1 => ?_
  refine cw_region ?_
  refine ow_cons (st_box1 (h1 := rfl) (k := fun b1 => ?_))
  refine ow_cons (st_box1 (h1 := rfl) (k := fun b2 => ?_))
  refine ow_cons (st_box1 (h1 := rfl) (k := fun b3 => ?_))
  refine ow_ev ev_assign ?_
  refine ow_nil (hK1 _ _ ?_); clear hK1
  refine cw_seq fun K2 hK2 => ?_
  refine cw_region ?_
  refine ow_ev ev_makeFunc ?_
  refine ow_ev ev_assign ?_
  refine ow_nil (hK2 _ _ ?_); clear hK2
  refine cw_ret (kw_retc1 (fun w hm => post_of (b2, b1, b3) hm rfl))
theorem strings_SplitSeq_spec (S : Soup) (w : World) (s0 sep0 : Str) (hS : ∀ k, S k → k < w.heap.size) :
    Calls Tryd.prog 68 #[.string s0.ba, .string sep0.ba] w (Post (β := Nat × Nat × Nat) S [] (fun g => .func (.func 102) #[] #[.pointer (some ⟨g.1, 0, none⟩), .pointer (some ⟨g.2.1, 0, none⟩), .pointer (some ⟨g.2.2, 0, none⟩)])
      (fun g => [own g.1 9 [.string sep0.ba], own g.2.1 9 [.string s0.ba], own g.2.2 3 [.int .i64 0]]) w) := by
  refine calls_cw (args := [_, _]) Tryd.func68 rfl (pre_nil hS).start rfl ?_
  refine cw_seq fun K1 hK1 => ?_
  refine cw_region ?_
  refine ow_ev ev_assign ?_
  refine ow_nil (hK1 _ _ ?_); clear hK1
  refine cw_seq fun K2 hK2 => ?_
  refine cw_region ?_
  refine ow_ev ev_move ?_
  refine ow_ev ev_move ?_
  refine ow_cons (st_callF SelL.nil (fun S w hs hP => strings_splitSeq_spec _ w s0 sep0 0 (lend_lt hs)) (by intro r c hc; simp only [List.mem_cons, List.not_mem_nil, or_false] at hc; rcases hc with rfl | rfl | rfl <;> exact flatC_own) (fun g => ?_))
  dsimp only [List.cons_append, List.nil_append]
  refine ow_ev ev_assign ?_
  refine ow_nil (hK2 _ _ ?_); clear hK2
  refine cw_ret (kw_retc1 (fun w hm => post_of g hm rfl))

/-! ### Lines -/
theorem words_Lines_spec (S : Soup) (w : World) (src0 : Str) (y : (List (List Word)) × Int × Int) (hM : words_Lines_m src0 = some y) (hS : ∀ k, S k → k < w.heap.size) :
    Calls Tryd.prog 40 #[.string src0.ba] w (Post (β := (GoRep.R (List (List Word)))) S [] (fun g => .tuple #[.slice g.a y.1.length g.cap, .int .i64 y.2.1, .int .i64 y.2.2]) (fun g => [trow 79 g y.1]) w) := by
  refine calls_cwM (args := [_]) Tryd.func40 rfl (pre_nil hS).start rfl ?_
  unfold words_Lines_m at hM
  refine cw_seq fun K1 hK1 => ?_
  refine cw_region ?_
  refine ow_cons (st_alloc rfl (k := fun b2 => ?_))
  refine ow_cons (st_alloc rfl (k := fun b3 => ?_))
  refine ow_cons (st_alloc rfl (k := fun b4 => ?_))
  refine ow_nil (hK1 _ _ ?_); clear hK1
  refine cw_seq fun K2 hK2 => ?_
  refine cw_seq fun K3 hK3 => ?_
  refine cw_region ?_
  refine ow_ev ev_move ?_
  refine ow_ev ev_slen ?_
  refine ow_ev ev_gtr ?_
  refine ow_nil (hK3 _ _ ?_); clear hK3
  refine cw_cond rfl (fun hc => ?_) (fun hc => ?_)
  · replace hM := (ite_t hc).symm.trans hM
    refine cw_seq fun K4 hK4 => ?_
    refine cw_region ?_
    refine ow_cons (st_store_all (b := b2) (vs := [.slice none 0 0]) (k := ?_))
    refine ow_cons (st_store_all (b := b3) (vs := [.int .i64 0]) (k := ?_))
    refine ow_cons (st_store_all (b := b4) (vs := [.int .i64 7]) (k := ?_))
    refine ow_nil (hK4 _ _ ?_); clear hK4
    refine cw_imp (fun w hm => hm.row_nil (α := List Word) 79 (fun _ => (⟨none, 0, fun _ => ()⟩ : SR (GoRep.R Word)))) ?_
    obtain rfl := some_inj hM
    refine cw_ret (kw_retM3 (fun w hm => post_of (⟨none, 0, fun _ => (⟨none, 0, fun _ => ()⟩ : SR (GoRep.R Word))⟩ : SR (GoRep.R (List Word))) hm rfl))
  · replace hM := (ite_f hc).symm.trans hM
    refine cw_skip (hK2 _ _ ?_); clear hK2
    refine cw_seq fun K5 hK5 => ?_
    refine cw_region ?_
    refine ow_cons (st_alloc rfl (k := fun b5 => ?_))
    refine ow_nil (hK5 _ _ ?_); clear hK5
    refine cw_seq fun K6 hK6 => ?_
    refine cw_region ?_
    refine ow_cons (st_alloc rfl (k := fun b6 => ?_))
    refine ow_cons (st_store_all (b := b6) (vs := [.int .i64 0]) (k := ?_))
    refine ow_nil (hK6 _ _ ?_); clear hK6
    refine cw_seqR ?_
    refine cw_seq fun K7 hK7 => ?_
    refine cw_region ?_
    refine ow_ev ev_move ?_
    refine ow_cons (st_callF SelL.nil (fun S w hs hP => strings_SplitSeq_spec _ w src0 ⟨[10]⟩ (lend_lt hs)) (by intro r c hc; simp only [List.mem_cons, List.not_mem_nil, or_false] at hc; rcases hc with rfl | rfl | rfl <;> exact flatC_own) (fun g => ?_))
    dsimp only [List.cons_append, List.nil_append]
    refine ow_nil (hK7 _ _ ?_); clear hK7
    obtain ⟨bsep, bs, bsave⟩ := g
    dsimp only
    refine cw_imp (fun w hm => (hm.row_nil (α := List Word) 79 (fun _ => (⟨none, 0, fun _ => ()⟩ : SR (GoRep.R Word)))).reord (cs := HL bsep bs bsave b6 b5 b4 b3 b2 src0 0 [] (⟨none, 0, fun _ => (⟨none, 0, fun _ => ()⟩ : SR (GoRep.R Word))⟩ : SR (GoRep.R (List Word))))) ?_
    refine cw_range (cap := [.pointer (some ⟨bsep, 0, none⟩), .pointer (some ⟨bs, 0, none⟩), .pointer (some ⟨bsave, 0, none⟩)]) (WTn bsep bs bsave b6 b5 b4 b3 b2 y) (WTr bsep bs bsave b6 b5 b4 b3 b2 y) rfl (by kernel_rfl) ?_ ?_ ?_
    · -- the iterator
      intro L D w1 hm1
      refine iter_spec bsep bs bsave b6 b5 b4 b3 b2 rfl ?_ FUEL src0 0 [] _ y hM w1 hm1
      clear hM hm1 hc
      intro κ' F hF t s number lines r z hz Ka hKa
      refine cwi_region ?_
      refine owi_ev hF ev_assign ?_
      refine owi_nil (hKa _ ?_); clear hKa
      unfold lineStep at hz
      refine cwi_block ?_
      refine cwi_seq fun K1 hK1 => ?_
      refine cwi_region ?_
      refine owi_ev hF (ev_load_own (b := b6)) ?_
      obtain ⟨hI1, hz⟩ := chk_some hz
      refine owi_ev hF (ev_add (hr := fun hg => i64b_I64 hI1)) ?_
      refine owi_cons hF (st_store_all (b := b6) (vs := [.int .i64 (number + 1)]) (k := ?_))
      refine owi_nil (hK1 _ _ ?_); clear hK1
      refine cwi_seq fun K2 hK2 => ?_
      refine cwi_region ?_
      refine owi_ev hF ev_move ?_
      refine owi_ev hF (ev_load_own (b := b6)) ?_
      obtain ⟨y1, hy1, hz⟩ := bind_some hz
      refine owi_cons hF (st_callF SelL.nil (fun S w hs hP => words_split_spec _ w t (number + 1) y1 hy1 (lend_lt hs)) (by intro r c hc; simp only [List.mem_cons, List.not_mem_nil, or_false] at hc; rcases hc with rfl; exact flatC_trow (fun _ _ _ _ => trivial)) (fun g => ?_))
      dsimp only [List.cons_append, List.nil_append]
      refine owi_ev hF ev_move ?_
      refine owi_ev hF (ev_extract (vs := [.slice g.a y1.1.length g.cap, .bool y1.2])) ?_
      refine owi_ev hF (ev_extract (vs := [.slice g.a y1.1.length g.cap, .bool y1.2])) ?_
      refine owi_ev hF ev_assign ?_
      refine owi_ev hF ev_assign ?_
      refine owi_nil (hK2 _ _ ?_); clear hK2
      refine cwi_block ?_
      refine cwi_seq fun K3 hK3 => ?_
      refine cwi_region ?_
      refine owi_ev hF ev_move ?_
      refine owi_ev hF ev_not ?_
      refine owi_ev hF ev_assign ?_
      refine owi_nil (hK3 _ _ ?_); clear hK3
      refine cwi_cond rfl (fun hc => ?_) (fun hc => ?_)
      · replace hz := (ite_t hc).symm.trans hz
        obtain rfl := some_inj hz
        refine cwi_seq fun K4 hK4 => ?_
        refine cwi_region_any ?_
        refine awi_two hF 0 1 ⟨_, rfl, rfl, rfl, st_ev (ev_load_own (b := b6)) ?_⟩ ⟨_, rfl, rfl, rfl, st_store_all (b := b2) (vs := [.slice none 0 0]) (k := ?_)⟩
        · refine awi_one hF 1 rfl (st_store_all (b := b2) (vs := [.slice none 0 0]) (k := ?_))
          refine awi_one hF 2 rfl (st_store_all (b := b3) (vs := [.int .i64 (number + 1)]) (k := ?_))
          refine awi_one hF 3 rfl (st_store_all (b := b4) (vs := [.int .i64 2]) (k := ?_))
          refine awi_done (hK4 _ _ ?_)
          exact cwi_ret fun w a hm ho => ⟨_, ⟨_, lines, r, rfl, rfl⟩, hm.reord⟩
        · refine awi_one hF 0 rfl (st_ev (ev_load_own (b := b6)) ?_)
          refine awi_one hF 2 rfl (st_store_all (b := b3) (vs := [.int .i64 (number + 1)]) (k := ?_))
          refine awi_one hF 3 rfl (st_store_all (b := b4) (vs := [.int .i64 2]) (k := ?_))
          refine awi_done (hK4 _ _ ?_)
          exact cwi_ret fun w a hm ho => ⟨_, ⟨_, lines, r, rfl, rfl⟩, hm.reord⟩
      · replace hz := (ite_f hc).symm.trans hz
        refine cwi_seq fun K4 hK4 => ?_
        refine cwi_region ?_
        refine owi_ev hF ev_move ?_
        refine owi_ev hF ev_len ?_
        refine owi_ev hF ev_gtr ?_
        refine owi_ev hF ev_assign ?_
        refine owi_nil (hK4 _ _ ?_); clear hK4
        refine cwi_cond rfl (fun hc2 => ?_) (fun hc2 => ?_)
        · replace hz := (ite_t hc2).symm.trans hz
          obtain rfl := some_inj hz
          refine cwi_seq fun K4 hK4 => ?_
          refine cwi_region_any ?_
          refine awi_two hF 0 1 ⟨_, rfl, rfl, rfl, st_ev (ev_load_own (b := b6)) ?_⟩ ⟨_, rfl, rfl, rfl, st_store_all (b := b2) (vs := [.slice none 0 0]) (k := ?_)⟩
          · refine awi_one hF 1 rfl (st_store_all (b := b2) (vs := [.slice none 0 0]) (k := ?_))
            refine awi_one hF 2 rfl (st_store_all (b := b3) (vs := [.int .i64 (number + 1)]) (k := ?_))
            refine awi_one hF 3 rfl (st_store_all (b := b4) (vs := [.int .i64 7]) (k := ?_))
            refine awi_done (hK4 _ _ ?_)
            exact cwi_ret fun w a hm ho => ⟨_, ⟨_, lines, r, rfl, rfl⟩, hm.reord⟩
          · refine awi_one hF 0 rfl (st_ev (ev_load_own (b := b6)) ?_)
            refine awi_one hF 2 rfl (st_store_all (b := b3) (vs := [.int .i64 (number + 1)]) (k := ?_))
            refine awi_one hF 3 rfl (st_store_all (b := b4) (vs := [.int .i64 7]) (k := ?_))
            refine awi_done (hK4 _ _ ?_)
            exact cwi_ret fun w a hm ho => ⟨_, ⟨_, lines, r, rfl, rfl⟩, hm.reord⟩
        · replace hz := (ite_f hc2).symm.trans hz
          refine cwi_seq fun K4 hK4 => ?_
          refine cwi_region ?_
          refine owi_ev hF ev_move ?_
          refine owi_ev hF ev_len ?_
          refine owi_ev hF ev_gtr ?_
          refine owi_ev hF ev_assign ?_
          refine owi_nil (hK4 _ _ ?_); clear hK4
          refine cwi_cond rfl (fun hc3 => ?_) (fun hc3 => ?_)
          · replace hz := (ite_t hc3).symm.trans hz
            obtain ⟨hb, hz⟩ := chk_some hz
            obtain rfl := some_inj hz
            refine cwi_region ?_
            refine owi_ev hF (ev_load_own (b := b5)) ?_
            refine owi_ev hF ev_move ?_
            refine owi_imp (fun w hm => hm.freeze (r := g) (by repeat (first | exact Upd.head | apply Upd.tail))) ?_
            refine owi_cons hF (st_bslice (α := List Word) 79 (fun _ => g) ([y1.1] : List (List Word)) (OkL.cons (fun S w hs => (Sk.imm (α := List Word) (r := g) (x := y1.1) (by repeat (first | exact Has.head | apply Has.tail))) S w hs) OkL.nil) (fun r2 => ?_))
            refine owi_cons hF (st_append (r := r) (r2 := r2) (by intro r'; repeat (first | exact Upd.head | apply Upd.tail)) (Kn.trow (e := 79) (r := r2) (by repeat (first | exact Has.head | apply Has.tail))) (OkL.row (e := 79) (r := r2) (by repeat (first | exact Has.head | apply Has.tail))) (of_decide_eq_true hb) (fun r3 => ?_))
            refine owi_cons hF (st_store_all (b := b5) (vs := [.slice r3.a (lines ++ [y1.1]).length r3.cap]) (k := ?_))
            exact owi_nil fun w a hm ho => ⟨_, ⟨_, r3, rfl, rfl⟩, hm.reord⟩
          · replace hz := (ite_f hc3).symm.trans hz
            obtain rfl := some_inj hz
            exact cwi_skip fun w a hm ho => ⟨_, ⟨_, r, rfl, rfl⟩, hm.reord⟩
    · -- behind it
      intro D H2 hT w2 a hm ho
      obtain ⟨s, number, r, hy, rfl⟩ := hT
      refine wp_seq (wp_region_lit ?_)
      refine (?_ : OWm _ _ _ _ _ _ _ _ _) w2 a hm ho
      refine owm_load (ev_load_own (b := b5)) ?_
      refine owm_store (st_store_all (b := b2) (vs := [.slice r.a y.1.length r.cap]) (k := ?_))
      refine owm_store (st_store_all (b := b3) (vs := [.int .i64 0]) (k := ?_))
      refine owm_store (st_store_all (b := b4) (vs := [.int .i64 0]) (k := ?_))
      refine owm_nil fun w a hm ho => ?_
      refine wp_ret ?_
      rw [hy]
      exact retM3 hm ho (fun w hm => post_of r hm rfl)
    · intro D H2 hT w2 a hm ho
      obtain ⟨s, lines, r, hy, rfl⟩ := hT
      rw [hy]
      exact retM3 hm ho (fun w hm => post_of (⟨none, 0, fun _ => (⟨none, 0, fun _ => ()⟩ : SR (GoRep.R Word))⟩ : SR (GoRep.R (List Word))) (hm.row_nil (α := List Word) 79 (fun _ => (⟨none, 0, fun _ => ()⟩ : SR (GoRep.R Word)))) rfl)
end Go.Proofs.YtohhihdjdelckaaDoor

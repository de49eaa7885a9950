/- keep.Layout, keep.Step, layout.Hops. -/
import Derived.Test.YtnihhidbiepnhaaRow
namespace Go.Eng
open Go.RowKit
section
variable {P : Program} {n : Nat} {w0 : World} {ρ : Env} {H : List Chunk} {g : Bool}
theorem ev_max2 {x y : Operand} {ts : Array TypeId} {k k' : IntKind} {p q : Int} (hx : Gets ρ g x (.int k p) := by first | exact .plain rfl | exact .cond rfl id | exact .cond rfl gl) (hy : Gets ρ g y (.int k' q) := by first | exact .plain rfl | exact .cond rfl id | exact .cond rfl gl) :
    Ev P n w0 H ρ g (.call { callee := .builtin .max, args := #[x, y], argTypes := ts }) (.int k (if q > p then q else p)) := by
  intro w a dst ty pos aft gd hm ho hg
  obtain ⟨cs, hc⟩ := exec_builtin2 a.eval .max x y ts dst ty pos aft gd
  rw [hc, hx.eval ho hg, hy.eval ho hg]
  exact run_value (s := Builtin.max_ ts ty #[.int k p, .int k' q]) (run_max_int2 w ts ty k k' p q)
/-- A struct that is the front part of a block of the call's own. -/
theorem ev_load_front {x : Operand} {t b T m : Nat} {l : List Value} (l' : List Value) (hx : Gets ρ g x (.pointer (some ⟨b, 0, none⟩)) := by first | exact .plain rfl | exact .cond rfl id | exact .cond rfl gl) (hh : Has H (own b T l) := by repeat (first | exact Has.head | apply Has.tail)) (ht : aggT P t = some m := by kernel_rfl) (hp : l' = l.take m := by rfl) (hl : l'.length = m := by rfl) : Ev P n w0 H ρ g (.load t x) (.agg l'.toArray) :=
  ev_load_agg hx ht hl fun _ _ hm j v hv => by
    have hv' : l[j]? = some v := by
      have hlt := (List.getElem?_eq_some_iff.1 hv).1
      rw [hp, List.getElem?_take_of_lt (by omega)] at hv
      exact hv
    have := own_cell (hh.φ hm) hv'
    by_cases h0 : j = 0
    · subst h0; exact this
    · simp only [Addr.add, h0, if_false, Nat.zero_add]; exact this
theorem apart_old {w : World} {b T k : Nat} {l : List Value} {fp : Nat → Prop} {H' : List Chunk} (hm : Mem w0 H w) (hsel : SelL H [own b T l] H') (hh : Has H' (oldBut w0 fp)) (hk : k < w0.heap.size) (hn : ¬ fp k) : k ≠ b := by
  rintro rfl
  have hp := hm.pick hsel
  exact (List.pairwise_cons.1 hp.disj).1 _ hh.mem k ⟨own k T l, List.mem_singleton.2 rfl, rfl⟩ ⟨hk, hn⟩
theorem many_nil_fp (k : Nat) : ¬ (many []).fp k := fun ⟨c, hc, _⟩ => by cases hc
theorem many_nil_φ (w : World) : (many []).φ w := ⟨(fun c hc => by cases hc), List.Pairwise.nil⟩
end
end Go.Eng
namespace Go.Proofs.Ytnihhidbiepnhaa
open Go.Eng Go.RowKit
set_option maxRecDepth 10000
theorem LayAt.mv {w0 w : World} {H : List Chunk} {v : LayV} {l : Lay} (h : LayAt 0 w0.heap.size w0 v l) (hm : Mem w0 H w) (hh : Has H (oldBut w0 (many []).fp)) : LayAt 0 w.heap.size w v l :=
  ⟨sl_oldBut h.st (fun _ => many_nil_fp _) hm hh, sl_oldBut h.pt (fun _ => many_nil_fp _) hm hh, sl_oldBut h.se (fun _ => many_nil_fp _) hm hh, sl_oldBut h.li (fun _ => many_nil_fp _) hm hh⟩

def layChunks (l : Lay) (v : LayV) : List Chunk := [row 9 1 v.a1 l.stations.length v.c1 (strCells l.stations), row 9 1 v.a2 l.points.length v.c2 (strCells l.points), row 31 5 v.a3 l.sections.length v.c3 (l.sections.flatMap Sec.cells), row 91 6 v.a4 l.links.length v.c4 (l.links.flatMap Lnk.cells)]
def layM (a : Option Addr) (cap : Nat) (zs : List Int) : Lay := (rowM ⟨a, cap, zs, 0⟩).l

theorem layout_spec (w : World) (a : Option Addr) (cap : Nat) (zs : List Int) (hz : zs.length ≤ 9223372036854775807) (hsl : Sl 0 w.heap.size w a (zs.map (.int .i64))) :
    Calls Try.prog 21 #[.slice a zs.length cap] w (Mut (many []) (fun r : LayV => .agg (r.cells (layM a cap zs)).toArray) (fun _ => True) (fun r => many (layChunks (layM a cap zs) r)) w) := by
  refine calls_cw (args := [_]) Try.func21 rfl (Mem.start_many [] (many_nil_φ w) (fun k hk => absurd hk (many_nil_fp k))) rfl ?_
  refine cw_seq fun K1 hK1 => ?_
  refine cw_region ?_
  refine ow_cons (st_alloc rfl (k := fun b2 => ?_))
  refine ow_nil (hK1 _ _ ?_); clear hK1
  refine cw_seq fun K2 hK2 => ?_
  refine cw_region ?_
  refine ow_ev ev_move ?_
  refine ow_cons (st_callM (cs := []) (fun w hm hφ hb => from_spec w a cap zs) (k := fun b4 _ => ?_))
  refine ow_cons (st_callM (cs := [own b4 122 (⟨a, cap, zs, 0⟩ : Src).cells]) (fun w' hm hφ hb => row_spec w' b4 ⟨a, cap, zs, 0⟩ ⟨Int.le_refl _, by show (0 : Int) ≤ _; omega, hz⟩ ⟨sl_oldBut hsl (fun _ => many_nil_fp _) hm (by repeat (first | exact Has.head | apply Has.tail)), fun hne => apart_old hm (by repeat (first | exact SelL.nil | (apply SelL.cons; · (repeat (first | exact Sel.head | apply Sel.tail))))) (by repeat (first | exact Has.head | apply Has.tail)) (by obtain ⟨x, xs, rfl⟩ := List.exists_cons_of_ne_nil hne; exact (hsl 0 (.int .i64 x) rfl).2.2.1) (many_nil_fp _)⟩ hφ hb) (k := fun r hr => ?_))
  obtain ⟨b5, bv⟩ := r
  unfold bldChunks
  dsimp only
  refine ow_ev ev_nilcheck ?_
  refine ow_ev (ev_field_addr 0) ?_
  refine ow_ev (ev_load_front (m := 4) (bv.v.cells (layM a cap zs))) ?_
  refine ow_cons (st_store_all (vs := bv.v.cells (layM a cap zs)) (k := ?_))
  refine ow_nil (hK2 _ _ ?_); clear hK2
  refine cw_ret (kw_retc1 (fun w hm => mut_of (cs := []) bv.v hm trivial rfl))

def qI (v q : Int) : Int := IntKind.i64.wrap (v.tdiv q)
def stepM (n : Nat) (v : Int) : Int × Int :=
  if pickI v 16 = 15 then (pickI (qI v 16) ((n : Int) + 4) - 2, pickI (qI v 700) 4 - 1) else (pickI (qI v 16) (if (n : Int) > 1 then n else 1), pickI (qI (qI v 16) 97) 2)
theorem step_spec (w : World) (v : LayV) (l : Lay) (x : Int) (hn : l.sections.length ≤ 1000000) : Calls Try.prog 23 #[.agg (v.cells l).toArray, .int .i64 x] w (Ret w (.agg #[.int .i64 (stepM l.sections.length x).1, .int .i64 (stepM l.sections.length x).2])) := by
  have hp1 := pickI_range (qI x 16) (m := (l.sections.length : Int) + 4) (by omega)
  have hp2 := pickI_range (qI x 700) (m := 4) (by omega)
  refine calls_cw (args := [_, _]) Try.func23 rfl (Mem.start w) rfl ?_
  refine cw_seq fun K1 hK1 => ?_
  refine cw_region ?_
  refine ow_cons (st_box (k := fun b2 => ?_))
  refine ow_cons (st_alloc rfl (k := fun b4 => ?_))
  refine ow_nil (hK1 _ _ ?_); clear hK1
  refine cw_seq fun K2 hK2 => ?_
  refine cw_seq fun K3 hK3 => ?_
  refine cw_region ?_
  refine ow_ev ev_move ?_
  refine ow_cons (st_callv (fun w hm => pick_spec w x 16 (by omega) (by omega)) ?_)
  refine ow_ev ev_eql ?_
  refine ow_nil (hK3 _ _ ?_); clear hK3
  refine cw_if rfl (fun hc1 => ?_) (fun hc1 => ?_)  -- t7
  ·
    refine cw_seq fun K4 hK4 => ?_
    refine cw_region ?_
    refine ow_ev ev_move ?_
    refine ow_ev ev_quo ?_
    refine ow_ev (ev_field_addr 2) ?_
    refine ow_ev ev_load_own ?_
    refine ow_ev ev_len ?_
    refine ow_ev ev_add ?_
    refine ow_cons (st_callv (fun w hm => pick_spec w (qI x 16) ((l.sections.length : Int) + 4) (by omega) (by omega)) ?_)
    refine ow_ev ev_sub ?_
    refine ow_ev ev_move ?_
    refine ow_ev ev_quo ?_
    refine ow_cons (st_callv (fun w hm => pick_spec w (qI x 700) 4 (by omega) (by omega)) ?_)
    refine ow_ev ev_sub ?_
    refine ow_ev ev_build2 ?_
    refine ow_cons (st_store_all (k := ?_))
    refine ow_nil (hK4 _ _ ?_); clear hK4
    refine cw_ret (kw_retc1 (fun w hm => ret_of hm (by rw [stepM, if_pos hc1])))
  ·
    refine cw_skip (hK2 _ _ ?_); clear hK2
    refine cw_seq fun K5 hK5 => ?_
    refine cw_region ?_
    refine ow_ev ev_move ?_
    refine ow_ev ev_quo ?_
    refine ow_ev (ev_field_addr 2) ?_
    refine ow_ev ev_load_own ?_
    refine ow_ev ev_len ?_
    refine ow_ev ev_max2 ?_
    refine ow_cons (st_callv (fun w hm => pick_spec w (qI x 16) (if (l.sections.length : Int) > 1 then l.sections.length else 1) (by split <;> omega) (by split <;> omega)) ?_)
    refine ow_ev ev_move ?_
    refine ow_ev ev_quo ?_
    refine ow_ev ev_quo ?_
    refine ow_cons (st_callv (fun w hm => pick_spec w (qI (qI x 16) 97) 2 (by omega) (by omega)) ?_)
    refine ow_ev ev_build2 ?_
    refine ow_cons (st_store_all (k := ?_))
    refine ow_nil (hK5 _ _ ?_); clear hK5
    refine cw_ret (kw_retc1 (fun w hm => ret_of hm (by rw [stepM, if_neg hc1])))

theorem enter_spec (w : World) (s d : Int) : Calls Try.prog 47 #[.agg #[.int .i64 s, .int .i64 d]] w (Ret w (.agg #[.int .i64 s, .int .i64 (if d = 0 then 0 else 1)])) := by
  refine calls_cw (args := [_]) Try.func47 rfl (Mem.start w) rfl ?_
  refine cw_seq fun K1 hK1 => ?_
  refine cw_region ?_
  refine ow_cons (st_box (k := fun b1 => ?_))
  refine ow_cons (st_alloc rfl (k := fun b2 => ?_))
  refine ow_nil (hK1 _ _ ?_); clear hK1
  refine cw_seq fun K2 hK2 => ?_
  refine cw_seq fun K3 hK3 => ?_
  refine cw_region ?_
  refine ow_ev (ev_field_addr 1) ?_
  refine ow_ev ev_load_own ?_
  refine ow_ev ev_eql ?_
  refine ow_nil (hK3 _ _ ?_); clear hK3
  refine cw_if rfl (fun hc1 => ?_) (fun hc1 => ?_)  -- t5
  ·
    refine cw_seq fun K4 hK4 => ?_
    refine cw_region ?_
    refine ow_ev (ev_field_addr 0) ?_
    refine ow_ev ev_load_own ?_
    refine ow_ev ev_build2 ?_
    refine ow_cons (st_store_all (k := ?_))
    refine ow_nil (hK4 _ _ ?_); clear hK4
    refine cw_ret (kw_retc1 (fun w hm => ret_of hm (by rw [if_pos hc1])))
  ·
    refine cw_skip (hK2 _ _ ?_); clear hK2
    refine cw_seq fun K5 hK5 => ?_
    refine cw_region ?_
    refine ow_ev (ev_field_addr 0) ?_
    refine ow_ev ev_load_own ?_
    refine ow_ev ev_build2 ?_
    refine ow_cons (st_store_all (k := ?_))
    refine ow_nil (hK5 _ _ ?_); clear hK5
    refine cw_ret (kw_retc1 (fun w hm => ret_of hm (by rw [if_neg hc1])))

theorem rev_spec (w : World) (s d : Int) : Calls Try.prog 24 #[.agg #[.int .i64 s, .int .i64 d]] w (Ret w (.agg #[.int .i64 s, .int .i64 (if d = 0 then 1 else 0)])) := by
  refine calls_cw (args := [_]) Try.func24 rfl (Mem.start w) rfl ?_
  refine cw_seq fun K1 hK1 => ?_
  refine cw_region ?_
  refine ow_cons (st_box (k := fun b1 => ?_))
  refine ow_cons (st_alloc rfl (k := fun b2 => ?_))
  refine ow_nil (hK1 _ _ ?_); clear hK1
  refine cw_seq fun K2 hK2 => ?_
  refine cw_seq fun K3 hK3 => ?_
  refine cw_region ?_
  refine ow_ev (ev_field_addr 1) ?_
  refine ow_ev ev_load_own ?_
  refine ow_ev ev_eql ?_
  refine ow_nil (hK3 _ _ ?_); clear hK3
  refine cw_if rfl (fun hc1 => ?_) (fun hc1 => ?_)  -- t5
  ·
    refine cw_seq fun K4 hK4 => ?_
    refine cw_region ?_
    refine ow_ev (ev_field_addr 0) ?_
    refine ow_ev ev_load_own ?_
    refine ow_ev ev_build2 ?_
    refine ow_cons (st_store_all (k := ?_))
    refine ow_nil (hK4 _ _ ?_); clear hK4
    refine cw_ret (kw_retc1 (fun w hm => ret_of hm (by rw [if_pos hc1])))
  ·
    refine cw_skip (hK2 _ _ ?_); clear hK2
    refine cw_seq fun K5 hK5 => ?_
    refine cw_region ?_
    refine ow_ev (ev_field_addr 0) ?_
    refine ow_ev ev_load_own ?_
    refine ow_ev ev_build2 ?_
    refine ow_cons (st_store_all (k := ?_))
    refine ow_nil (hK5 _ _ ?_); clear hK5
    refine cw_ret (kw_retc1 (fun w hm => ret_of hm (by rw [if_neg hc1])))

structure Hop where
  to : Int
  dir : Int
  point : Int
  pos : Int
  deriving DecidableEq
def Hop.cells (h : Hop) : List Value := [.int .i64 h.to, .int .i64 h.dir, .int .i64 h.point, .int .i64 h.pos]
def hopOf (s e : Int) (k : Lnk) : Option Hop :=
  if s = k.a ∧ e = k.aEnd then some ⟨k.b, if k.bEnd = 0 then 0 else 1, k.point, k.pos⟩ else if s = k.b ∧ e = k.bEnd then some ⟨k.a, if k.aEnd = 0 then 0 else 1, k.point, k.pos⟩ else none
def hopsL (l : Lay) (s d : Int) : List Hop := if hasB l s d = true then l.links.filterMap (hopOf s (if d = 1 then 0 else 1)) else []
theorem has_links {l : Lay} {s d : Int} (h : hasB l s d = true) : l.links.length ≤ 192 := by
  have hc : checkL l = 0 := by unfold hasB at h; simp at h; exact h.2
  unfold checkL at hc
  split at hc
  · omega
  · rename_i hf
    unfold fullB at hf
    simp at hf
    omega
theorem take_snoc {xs : List Lnk} {j : Nat} {k : Lnk} (hj : j < xs.length) (hk : k = xs.getD j lnkD) : xs.take (j + 1) = xs.take j ++ [k] := by
  rw [List.take_add_one, List.getElem?_eq_getElem hj, hk]
  simp [hj]
theorem hop_len (xs : List Hop) : (xs.flatMap Hop.cells).length = xs.length * 4 := flat_len (enc := Hop.cells) (sz := 4) (fun _ => rfl) xs
theorem hopsL_le (l : Lay) (s d : Int) : (hopsL l s d).length ≤ l.links.length := by
  unfold hopsL
  split
  · exact List.length_filterMap_le _ _
  · exact Nat.zero_le _

theorem hops_spec (w : World) (v : LayV) (l : Lay) (s d : Int) (hl : LayAt 0 w.heap.size w v l) :
    Calls Try.prog 22 #[.agg (v.cells l).toArray, .agg #[.int .i64 s, .int .i64 d]] w (Mut (many []) (fun r : Option Addr × Nat => .slice r.1 (hopsL l s d).length r.2) (fun _ => True) (fun r => many [row 43 4 r.1 (hopsL l s d).length r.2 ((hopsL l s d).flatMap Hop.cells)]) w) := by
  refine calls_cw (args := [_, _]) Try.func22 rfl (Mem.start_many [] (many_nil_φ w) (fun k hk => absurd hk (many_nil_fp k))) rfl ?_
  refine cw_seq fun K1 hK1 => ?_
  refine cw_region ?_
  refine ow_cons (st_box (k := fun b2 => ?_))
  refine ow_cons (st_box (k := fun b3 => ?_))
  refine ow_ev ev_assign ?_
  refine ow_nil (hK1 _ _ ?_); clear hK1
  refine cw_seq fun K2 hK2 => ?_
  refine cw_seq fun K3 hK3 => ?_
  refine cw_region ?_
  refine ow_ev ev_load_all ?_
  refine ow_ev ev_load_all ?_
  refine ow_cons (st_callv (fun w' hm => has_spec w' v l s d (hl.mv hm (by repeat (first | exact Has.head | apply Has.tail)))) ?_)
  refine ow_ev ev_not ?_
  refine ow_nil (hK3 _ _ ?_); clear hK3
  refine cw_cond rfl (fun hc1 => ?_) (fun hc1 => ?_)  -- t14
  ·
    have hN : hopsL l s d = [] := by rw [hopsL, if_neg (by simpa using hc1)]
    refine cw_seq fun K4 hK4 => ?_
    refine cw_region ?_
    refine ow_ev ev_assign ?_
    refine ow_nil (hK4 _ _ ?_); clear hK4
    refine cw_ret (kw_ret1 rfl rfl (fun w hm => mut_of (cs := []) (none, 0) (hm.row_nil 43 4) trivial (by rw [hN]; rfl) (hsel := by rw [hN]; repeat (first | exact SelL.nil | (apply SelL.cons; · (repeat (first | exact Sel.head | apply Sel.tail)))))))
  ·
    have hY : hasB l s d = true := by simpa using hc1
    have hL : l.links.length ≤ 192 := has_links hY
    refine cw_skip (hK2 _ _ ?_); clear hK2
    refine cw_seq fun K5 hK5 => ?_
    refine cw_region ?_
    refine ow_ev (ev_field_addr 0) ?_
    refine ow_ev ev_load_own ?_
    refine ow_ev ev_build2 ?_
    refine ow_cons (st_alloc rfl (k := fun b5 => ?_))
    refine ow_cons (st_store_all (k := ?_))
    refine ow_nil (hK5 _ _ ?_); clear hK5
    refine cw_cut (γ := Int) (env := fun e => [(2, .v (.pointer (some ⟨b2, 0, none⟩))), (5, .v (.pointer (some ⟨b5, 0, none⟩)))]) (mem := fun e => [own b5 89 [.int .i64 s, .int .i64 e], own b2 28 (v.cells l), oldBut w (many []).fp]) (R := fun e => e = if d = 1 then 0 else 1) ?_ ?_
    · intro KJ6 hJ6
      refine cw_seq fun K7 hK7 => ?_
      refine cw_region ?_
      refine ow_ev (ev_field_addr 1) ?_
      refine ow_ev ev_load_own ?_
      refine ow_ev ev_eql ?_
      refine ow_nil (hK7 _ _ ?_); clear hK7
      refine cw_if rfl (fun hc2 => ?_) (fun hc2 => ?_)  -- t20
      ·
        refine cw_region ?_
        refine ow_ev (ev_field_addr 1) ?_
        refine ow_cons (st_store_own (k := ?_))
        refine ow_nil (hJ6 (0) _ _ (by rw [if_pos hc2]) ⟨rfl, rfl, trivial⟩ (fun w hm => hm.reord))
      ·
        refine cw_skip (hJ6 (1) _ _ (by rw [if_neg hc2]) ⟨rfl, rfl, trivial⟩ (fun w hm => hm.reord))
    · intro e hR
      refine cw_seq fun K8 hK8 => ?_
      refine cw_region ?_
      refine ow_ev ev_assign ?_
      refine ow_nil (hK8 _ _ ?_); clear hK8
      refine cw_seq fun K9 hK9 => ?_
      refine cw_seq fun K10 hK10 => ?_
      refine cw_region ?_
      refine ow_ev (ev_field_addr 3) ?_
      refine ow_ev ev_load_own ?_
      refine ow_ev ev_len ?_
      refine ow_ev ev_move ?_
      refine ow_nil (hK10 _ _ ?_); clear hK10
      refine cw_block ?_
      refine cw_loop (γ := Nat × List Hop × Option Addr × Nat) (env := fun g => [(5, .v (.pointer (some ⟨b5, 0, none⟩))), (6, .v (.slice g.2.2.1 g.2.1.length g.2.2.2)), (23, .v (.slice v.a4 l.links.length v.c4)), (24, .v (.int .i64 (l.links.length : Int))), (25, .v (.int .i64 (g.1 : Int)))]) (mem := fun g => [own b5 89 [.int .i64 s, .int .i64 e], row 43 4 g.2.2.1 g.2.1.length g.2.2.2 (g.2.1.flatMap Hop.cells), oldBut w (many []).fp]) (R := fun g => g.1 ≤ l.links.length ∧ g.2.1 = (l.links.take g.1).filterMap (hopOf s e)) (μ := fun g => l.links.length - g.1) ((0, [], none, 0)) (⟨Nat.zero_le _, rfl⟩) ⟨rfl, rfl, rfl, rfl, rfl, trivial⟩ (fun w hm => (hm.row_nil 43 4).reord) ?_
      intro g hR1 KL1 hL1
      obtain ⟨j, hs, a, c⟩ := g
      dsimp only at hR1 ⊢
      obtain ⟨hj, hhs⟩ := hR1
      obtain ⟨k, hk⟩ : ∃ k, k = l.links.getD j lnkD := ⟨_, rfl⟩
      have hlen : hs.length ≤ l.links.length := by rw [hhs]; exact Nat.le_trans (List.length_filterMap_le _ _) (by rw [List.length_take]; omega)
      refine cw_seq fun K11 hK11 => ?_
      refine cw_region ?_
      refine ow_ev ev_lss ?_
      refine ow_nil (hK11 _ _ ?_); clear hK11
      refine cw_seq fun K12 hK12 => ?_
      refine cw_if rfl (fun hc3 => ?_) (fun hc3 => ?_)  -- t26
      ·
        refine cw_skip (hK12 _ _ ?_); clear hK12
        refine cw_seq fun K13 hK13 => ?_
        refine cw_block ?_
        refine cw_seq fun K14 hK14 => ?_
        refine cw_region ?_
        refine ow_ev (ev_index_addr' 6 (fun _ => hl.li.addr (by rw [lnk_len]; omega))) ?_
        refine ow_ev (ev_load_cells (l := k.cells) (fun w hm q u hu => by subst hk; rw [Nat.add_assoc]; exact cell_oldBut hl.li (lnk_get (by omega) hu) (Nat.le_refl _) (many_nil_fp _) (by repeat (first | exact Has.head | apply Has.tail)) w hm)) ?_
        refine ow_cons (st_alloc rfl (k := fun b8 => ?_))
        refine ow_cons (st_store_all (k := ?_))
        refine ow_nil (hK14 _ _ ?_); clear hK14
        refine cw_seq fun K15 hK15 => ?_
        refine cw_region ?_
        refine ow_ev ev_load_all ?_
        refine ow_cons (st_callv (fun w hm => ends_spec w k) ?_)
        refine ow_ev ev_move ?_
        refine ow_ev ev_extract ?_
        refine ow_ev ev_extract ?_
        refine ow_cons (st_alloc rfl (k := fun b9 => ?_))
        refine ow_cons (st_alloc rfl (k := fun b10 => ?_))
        refine ow_cons (st_store_all (k := ?_))
        refine ow_cons (st_store_all (k := ?_))
        refine ow_nil (hK15 _ _ ?_); clear hK15
        refine cw_seq fun K16 hK16 => ?_
        refine cw_region ?_
        refine ow_ev ev_load_all ?_
        refine ow_nil (hK16 _ _ ?_); clear hK16
        refine cw_block ?_
        refine cw_seq fun K17 hK17 => ?_
        refine cw_region ?_
        refine ow_ev ev_load_all ?_
        refine ow_ev ev_struct_eql ?_
        refine ow_ev ev_assign ?_
        refine ow_nil (hK17 _ _ ?_); clear hK17
        refine cw_if rfl (fun hc4 => ?_) (fun hc4 => ?_)  -- t35
        ·
          refine cw_region_any [own b10 89 [.int .i64 k.b, .int .i64 k.bEnd], own b8 91 k.cells, oldBut w (many []).fp] (by repeat (first | exact List.Sublist.refl _ | apply List.Sublist.cons_cons | apply List.Sublist.cons)) ?_
          refine aw_ev 0 rfl ev_move ?_
          refine aw_ev 1 rfl ev_load_all ?_
          refine aw_ev 3 rfl (ev_field_addr 4) ?_
          refine aw_ev 4 rfl ev_load_own ?_
          refine aw_ev 5 rfl (ev_field_addr 5) ?_
          refine aw_ev 6 rfl ev_load_own ?_
          refine aw_one 2 rfl (st_callv (fun w hm => enter_spec w k.b k.bEnd) ⟨fun w hm => hm.sub (by repeat (first | exact List.Sublist.refl _ | apply List.Sublist.cons_cons | apply List.Sublist.cons)), ?_⟩)
          refine aw_ev 7 rfl (ev_build (⟨k.b, if k.bEnd = 0 then 0 else 1, k.point, k.pos⟩ : Hop).cells) ?_
          refine aw_one 8 rfl (st_buildSlice 43 (⟨k.b, if k.bEnd = 0 then 0 else 1, k.point, k.pos⟩ : Hop).cells (k := fun b46 => ⟨fun w hm => hm.sub (by repeat (first | exact List.Sublist.refl _ | apply List.Sublist.cons_cons | apply List.Sublist.cons)), ?_⟩))
          refine aw_one 9 rfl (st_append_own 32 (k := fun a4 c4 => ⟨fun w hm => hm.sub (by repeat (first | exact List.Sublist.refl _ | apply List.Sublist.cons_cons | apply List.Sublist.cons)), ?_⟩))
          refine aw_ev 10 rfl ev_assign ?_
          refine aw_done (hK13 _ _ ?_); clear hK13
          refine cw_region ?_
          refine ow_ev ev_add ?_
          refine ow_ev ev_move ?_
          have ek : hopOf s e k = some (⟨k.b, if k.bEnd = 0 then 0 else 1, k.point, k.pos⟩ : Hop) := by rw [hopOf, if_pos hc4]
          refine ow_nil (hL1 ((j + 1, hs ++ [⟨k.b, if k.bEnd = 0 then 0 else 1, k.point, k.pos⟩], a4, c4)) _ _ (⟨by show j + 1 ≤ _; omega, by show hs ++ [_] = _; rw [take_snoc (by omega) hk, List.filterMap_append, ← hhs]; simp [ek]⟩) (by show _ - (j + 1) < _; omega) ⟨rfl, by simp only [List.length_append, List.length_singleton]; rfl, rfl, rfl, rfl, trivial⟩ (fun w hm => by dsimp only; simp only [List.length_append, List.length_singleton, List.flatMap_append, List.flatMap_singleton]; exact hm.reord))
        ·
          refine cw_seq fun K18 hK18 => ?_
          refine cw_region ?_
          refine ow_ev ev_load_all ?_
          refine ow_ev ev_struct_eql ?_
          refine ow_ev ev_assign ?_
          refine ow_nil (hK18 _ _ ?_); clear hK18
          refine cw_if rfl (fun hc5 => ?_) (fun hc5 => ?_)  -- t48
          ·
            refine cw_region_any [own b9 89 [.int .i64 k.a, .int .i64 k.aEnd], own b8 91 k.cells, oldBut w (many []).fp] (by repeat (first | exact List.Sublist.refl _ | apply List.Sublist.cons_cons | apply List.Sublist.cons)) ?_
            refine aw_ev 0 rfl ev_move ?_
            refine aw_ev 1 rfl ev_load_all ?_
            refine aw_ev 3 rfl (ev_field_addr 4) ?_
            refine aw_ev 4 rfl ev_load_own ?_
            refine aw_ev 5 rfl (ev_field_addr 5) ?_
            refine aw_ev 6 rfl ev_load_own ?_
            refine aw_one 2 rfl (st_callv (fun w hm => enter_spec w k.a k.aEnd) ⟨fun w hm => hm.sub (by repeat (first | exact List.Sublist.refl _ | apply List.Sublist.cons_cons | apply List.Sublist.cons)), ?_⟩)
            refine aw_ev 7 rfl (ev_build (⟨k.a, if k.aEnd = 0 then 0 else 1, k.point, k.pos⟩ : Hop).cells) ?_
            refine aw_one 8 rfl (st_buildSlice 43 (⟨k.a, if k.aEnd = 0 then 0 else 1, k.point, k.pos⟩ : Hop).cells (k := fun b59 => ⟨fun w hm => hm.sub (by repeat (first | exact List.Sublist.refl _ | apply List.Sublist.cons_cons | apply List.Sublist.cons)), ?_⟩))
            refine aw_one 9 rfl (st_append_own 32 (k := fun a5 c5 => ⟨fun w hm => hm.sub (by repeat (first | exact List.Sublist.refl _ | apply List.Sublist.cons_cons | apply List.Sublist.cons)), ?_⟩))
            refine aw_ev 10 rfl ev_assign ?_
            refine aw_done (hK13 _ _ ?_); clear hK13
            refine cw_region ?_
            refine ow_ev ev_add ?_
            refine ow_ev ev_move ?_
            have ek : hopOf s e k = some (⟨k.a, if k.aEnd = 0 then 0 else 1, k.point, k.pos⟩ : Hop) := by rw [hopOf, if_neg hc4, if_pos hc5]
            refine ow_nil (hL1 ((j + 1, hs ++ [⟨k.a, if k.aEnd = 0 then 0 else 1, k.point, k.pos⟩], a5, c5)) _ _ (⟨by show j + 1 ≤ _; omega, by show hs ++ [_] = _; rw [take_snoc (by omega) hk, List.filterMap_append, ← hhs]; simp [ek]⟩) (by show _ - (j + 1) < _; omega) ⟨rfl, by simp only [List.length_append, List.length_singleton]; rfl, rfl, rfl, rfl, trivial⟩ (fun w hm => by dsimp only; simp only [List.length_append, List.length_singleton, List.flatMap_append, List.flatMap_singleton]; exact hm.reord))
          ·
            refine cw_skip (hK13 _ _ ?_); clear hK13
            refine cw_region ?_
            refine ow_ev ev_add ?_
            refine ow_ev ev_move ?_
            have ek : hopOf s e k = none := by rw [hopOf, if_neg hc4, if_neg hc5]
            refine ow_nil (hL1 ((j + 1, hs, a, c)) _ _ (⟨by show j + 1 ≤ _; omega, by show hs = _; rw [take_snoc (by omega) hk, List.filterMap_append, ← hhs]; simp [ek]⟩) (by show _ - (j + 1) < _; omega) ⟨rfl, rfl, rfl, rfl, rfl, trivial⟩ (fun w hm => hm.reord))
      ·
        refine cw_exit (hK9 _ _ ?_); clear hK9
        refine cw_seq fun K19 hK19 => ?_
        refine cw_region ?_
        refine ow_ev ev_move ?_
        refine ow_ev ev_assign ?_
        refine ow_nil (hK19 _ _ ?_); clear hK19
        refine cw_ret (kw_ret1 rfl rfl (fun w hm => by have ej : j = l.links.length := (by omega); subst ej; rw [List.take_length] at hhs; have eh : hopsL l s d = hs := (by rw [hopsL, if_pos hY, hhs, hR]); rw [eh]; exact mut_of (cs := []) (a, c) hm trivial rfl))

end Go.Proofs.Ytnihhidbiepnhaa

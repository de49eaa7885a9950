/- The row of stations that keep.row builds. -/
import Derived.Test.YtnihhidbiepnhaaBld2
namespace Go.Eng
open Go.RowKit
section
variable {P : Program} {n : Nat} {w0 : World} {ρ : Env} {H : List Chunk} {g : Bool}
theorem ev_index_row {x y : Operand} {t m c e : Nat} {ad : Option Addr} {k : IntKind} {i : Int} {xs : List Value} (sz : Nat)
    (hx : Gets ρ g x (.slice ad m c) := by first | exact .plain rfl | exact .cond rfl id | exact .cond rfl gl) (hy : Gets ρ g y (.int k i) := by first | exact .plain rfl | exact .cond rfl id | exact .cond rfl gl) (hh : Has H (row e sz ad m c xs) := by repeat (first | exact Has.head | apply Has.tail))
    (hs : elemSize P t = some sz := by kernel_rfl) (hi : g = true → 0 ≤ i ∧ i < (m : Int) := by first | (intro _; omega) | (intro hg; simp at hg; omega)) :
    Ev P n w0 H ρ g (.indexAddr t x y) (.pointer (some ⟨sb ad, so ad + i.toNat * sz, none⟩)) := by
  intro w a dst ty pos aft gd hm ho hg
  exact ev_index_addr' sz (fun _ => (row_addr (hh.φ hm) (by have := hi hg; omega)).1) hx hy hs hi w a dst ty pos aft gd hm ho hg

/-- A row of numbers: its header and its numbers. -/
structure IR where
  a : Option Addr
  cap : Nat
  l : List Int
def IR.hdr (r : IR) : Value := .slice r.a r.l.length r.cap
def IR.chunk (e : Nat) (r : IR) : Chunk := row e 1 r.a r.l.length r.cap (r.l.map (.int .i64))
theorem ir_hdr {T : List IR} {i : Nat} {r : IR} (h : T[i]? = some r) : (T.map IR.hdr)[i]? = some (.slice r.a r.l.length r.cap) := by simp [h, IR.hdr]
theorem ir_sl {w : World} {e : Nat} {T : List IR} {i : Nat} {r : IR} (h : T[i]? = some r) (hm : Mem w0 H w) (hh : Has H (many (T.map (IR.chunk e)))) : Sl 0 w.heap.size w r.a (r.l.map (.int .i64)) := by
  have hc : IR.chunk e r ∈ T.map (IR.chunk e) := List.mem_map_of_mem (List.mem_of_getElem? h)
  exact sl_ownsRow (e := e) (sz := 1) (cap := r.cap) ((hh.φ hm).1 _ hc) (fun p hp => hh.lt hm ⟨_, hc, p, hp, rfl⟩)
theorem ir_apart {w : World} {e : Nat} {T : List IR} {i : Nat} {r : IR} {cs H' : List Chunk} (h : T[i]? = some r) (hm : Mem w0 H w) (hsel : SelL H cs H') (hh : Has H' (many (T.map (IR.chunk e)))) (hne : r.l ≠ []) : ¬ (many cs).fp (sb r.a) := by
  have hc : IR.chunk e r ∈ T.map (IR.chunk e) := List.mem_map_of_mem (List.mem_of_getElem? h)
  have hp := hm.pick hsel
  have hd := (List.pairwise_cons.1 hp.disj).1 _ hh.mem
  intro hf
  have ha := row_addr (e := e) (sz := 1) (cap := r.cap) (xs := r.l.map (.int .i64)) ((Has.tail hh : Has (many cs :: H') _).φ hp |>.1 _ hc) (by have := List.length_pos_iff.2 hne; omega)
  exact hd _ hf ⟨_, hc, _, ha.1, rfl⟩
theorem Mem.many_nil {w : World} (hm : Mem w0 H w) : Mem w0 (many [] :: H) w := Mem.fold (cs := []) hm
theorem Mem.many_snoc {w : World} {cs : List Chunk} {c : Chunk} (hm : Mem w0 (many cs :: c :: H) w) : Mem w0 (many (cs ++ [c]) :: H) w := by
  have h := hm.unfold
  exact Mem.fold (cs := cs ++ [c]) (by simpa using h)
end
theorem Mem.snoc {w0 w : World} {H H' cs : List Chunk} {c : Chunk} (hm : Mem w0 H w)
    (h : SelL H [many cs, c] H' := by repeat (first | exact SelL.nil | (apply SelL.cons; · (repeat (first | exact Sel.head | apply Sel.tail))))) : Mem w0 (many (cs ++ [c]) :: H') w := (hm.pick h).unfold.many_snoc
end Go.Eng
namespace Go.Proofs.Ytnihhidbiepnhaa
open Go.Eng Go.RowKit
set_option maxRecDepth 10000
set_option linter.unusedSimpArgs false

def nm1 (c : UInt8) (i : Nat) : ByteArray := bs ([c] ++ [UInt8.ofNat (48 + i % 10)])
def nm2 (c : UInt8) (i k : Nat) : ByteArray := bs (([c] ++ [UInt8.ofNat (48 + i % 10)]) ++ [UInt8.ofNat (48 + k % 10)])
def secX2 (more : Int) (x : Sec) : Sec := ⟨x.name, x.len + more, x.lim, x.grade, x.station⟩
def secLoop (more : Int) (c : UInt8) (i : Nat) (st : Int) : Nat → Src → List Sec → List Int → Src × List Sec × List Int
  | 0, s, se, t => (s, se, t)
  | k + 1, s, se, t => secLoop more c i st k s.next.next.next (se ++ [secX2 more (s.sec (nm2 c i (k + 1)) st)]) (t ++ [(se.length : Int)])
theorem secLoop_len (more : Int) (c : UInt8) (i : Nat) (st : Int) : ∀ k s se t, (secLoop more c i st k s se t).2.1.length = se.length + k ∧ (secLoop more c i st k s se t).2.2.length = t.length + k
  | 0, s, se, t => ⟨rfl, rfl⟩
  | k + 1, s, se, t => by
    obtain ⟨h1, h2⟩ := secLoop_len more c i st k s.next.next.next (se ++ [secX2 more (s.sec (nm2 c i (k + 1)) st)]) (t ++ [(se.length : Int)])
    simp only [secLoop, h1, h2, List.length_append, List.length_singleton]
    omega
/-- What keep.row has built so far. -/
structure RowS where
  s : Src
  l : Lay
  tr : List (List Int)
  bt : List (List Int)
def statStep (x : RowS) (i : Nat) : RowS :=
  let r := secLoop 2 84 i i (1 + x.s.val 2).toNat x.s.next x.l.sections []
  ⟨r.1, ⟨x.l.stations ++ [nm1 83 i], x.l.points, r.2.1, x.l.links⟩, x.tr ++ [r.2.2], x.bt⟩
def statN (x : RowS) : Nat → RowS
  | 0 => x
  | i + 1 => statStep (statN x i) i
def chainL (t : List Int) (j : Nat) : List Lnk := (List.range j).map fun k => ⟨t.getD k 0, 1, t.getD (k + 1) 0, 0, -1, 0⟩
def midStep (x : RowS) (i : Nat) : RowS :=
  let r := secLoop 0 76 i (-1) (1 + x.s.val 2).toNat x.s.next x.l.sections []
  let t := r.2.2
  let t1 := x.tr.getD i []
  let t2 := x.tr.getD (i + 1) []
  let p1 := x.l.points ++ fanN x.l.points.length t1
  let l1 := (x.l.links ++ chainL t (t.length - 1)) ++ fanL (t.getD 0 0) (fanQ x.l.points.length t1) false t1
  ⟨r.1, ⟨x.l.stations, p1 ++ fanN p1.length t2, r.2.1, l1 ++ fanL (t.getD (t.length - 1) 0) (fanQ p1.length t2) true t2⟩, x.tr, x.bt ++ [t]⟩
def midN (x : RowS) : Nat → RowS
  | 0 => x
  | i + 1 => midStep (midN x i) i
def rowM (s : Src) : RowS := midN (statN ⟨s.next, ⟨[], [], [], []⟩, [], []⟩ (2 + s.val 2).toNat) ((2 + s.val 2).toNat - 1)
theorem secX2_0 (x : Sec) : secX2 0 x = x := by cases x; simp [secX2]
theorem fanN_len (m : Nat) (tr : List Int) : (fanN m tr).length = fanP tr := by unfold fanN fanP; split <;> rfl
theorem fanP_le (tr : List Int) : fanP tr ≤ 1 := by unfold fanP; split <;> omega
theorem chainL_len (t : List Int) (j : Nat) : (chainL t j).length = j := by simp [chainL]
theorem chainL_step (t : List Int) (j : Nat) : (chainL t (j + 1)).flatMap Lnk.cells = (chainL t j).flatMap Lnk.cells ++ (⟨t.getD j 0, 1, t.getD (j + 1) 0, 0, -1, 0⟩ : Lnk).cells := by simp [chainL, List.range_succ]
theorem stat_next {X : RowS} {i : Nat} {s s2 : Src} {l : Lay} {T U : List IR} {se : List Sec} {ir : IR} (hst : statN X i = ⟨s, l, T.map IR.l, U.map IR.l⟩)
    (hf : secLoop 2 84 i i (1 + s.val 2).toNat s.next l.sections [] = (s2, se, ir.l)) : statN X (i + 1) = ⟨s2, ⟨l.stations ++ [nm1 83 i], l.points, se, l.links⟩, (T ++ [ir]).map IR.l, U.map IR.l⟩ := by
  show statStep (statN X i) i = _
  rw [hst]
  simp only [statStep, hf, List.map_append, List.map_singleton]
theorem ir_get {T : List IR} {i : Nat} {r : IR} (h : T[i]? = some r) : (T.map IR.l).getD i [] = r.l := by simp [h]
theorem mid_next {X : RowS} {i : Nat} {s s2 : Src} {l : Lay} {T U : List IR} {se : List Sec} {ir r1 r2 : IR} (hst : midN X i = ⟨s, l, T.map IR.l, U.map IR.l⟩)
    (hf : secLoop 0 76 i (-1) (1 + s.val 2).toNat s.next l.sections [] = (s2, se, ir.l)) (h1 : T[i]? = some r1) (h2 : T[i + 1]? = some r2) :
    midN X (i + 1) = ⟨s2, ⟨l.stations, (l.points ++ fanN l.points.length r1.l) ++ fanN (l.points ++ fanN l.points.length r1.l).length r2.l, se, ((l.links ++ chainL ir.l (ir.l.length - 1)) ++ fanL (ir.l.getD 0 0) (fanQ l.points.length r1.l) false r1.l) ++ fanL (ir.l.getD (ir.l.length - 1) 0) (fanQ (l.points ++ fanN l.points.length r1.l).length r2.l) true r2.l⟩, T.map IR.l, (U ++ [ir]).map IR.l⟩ := by
  show midStep (midN X i) i = _
  rw [hst]
  simp only [midStep, hf, ir_get h1, ir_get h2, List.map_append, List.map_singleton]
theorem secLoop_next {more : Int} {c : UInt8} {i : Nat} {st : Int} {k : Nat} {s : Src} {se : List Sec} {t : List Int} {F : Src × List Sec × List Int} (h : secLoop more c i st (k + 1) s se t = F) :
    secLoop more c i st k s.next.next.next (se ++ [secX2 more (s.sec (nm2 c i (k + 1)) st)]) (t ++ [(se.length : Int)]) = F := h
theorem secLoop_dec {more : Int} {c : UInt8} {i : Nat} {st k : Int} {s : Src} {se : List Sec} {t : List Int} {F : Src × List Sec × List Int} (hk : 0 < k) (h : secLoop more c i st k.toNat s se t = F) :
    secLoop more c i st (k - 1).toNat s.next.next.next (se ++ [secX2 more (s.sec (nm2 c i k.toNat) st)]) (t ++ [(se.length : Int)]) = F := by
  rw [show k.toNat = (k - 1).toNat + 1 by omega] at h ⊢
  exact h

/-- The headers that a builder holds. -/
structure BV where
  v : LayV
  T : List IR
  ta : Option Addr
  tc : Nat
  U : List IR
  ba : Option Addr
  bc : Nat
def bldChunks (bb : Nat) (l : Lay) (h : BV) : List Chunk := [own bb 83 [.slice h.v.a1 l.stations.length h.v.c1, .slice h.v.a2 l.points.length h.v.c2, .slice h.v.a3 (l.sections).length h.v.c3, .slice h.v.a4 l.links.length h.v.c4, .slice h.ta h.T.length h.tc, .slice h.ba h.U.length h.bc, .slice none 0 0], row 9 1 h.v.a1 l.stations.length h.v.c1 (strCells l.stations), row 9 1 h.v.a2 l.points.length h.v.c2 (strCells l.points), row 31 5 h.v.a3 (l.sections).length h.v.c3 ((l.sections).flatMap Sec.cells), row 91 6 h.v.a4 l.links.length h.v.c4 (l.links.flatMap Lnk.cells), row 22 1 h.ta h.T.length h.tc (h.T.map IR.hdr), row 22 1 h.ba h.U.length h.bc (h.U.map IR.hdr), many (h.T.map (IR.chunk 3)), many (h.U.map (IR.chunk 3))]

theorem row_spec (w : World) (b : Nat) (S : Src) (hS : S.Ok) (hA : SrcAt w b S)
    (hφ : (many [own b 122 S.cells]).φ w) (hb : ∀ k, (many [own b 122 S.cells]).fp k → k < w.heap.size) :
    Calls Try.prog 44 #[.pointer (some ⟨b, 0, none⟩)] w (Mut (many [own b 122 S.cells]) (fun r : Nat × BV => .pointer (some ⟨r.1, 0, none⟩)) (fun r => r.2.T.map IR.l = (rowM S).tr ∧ r.2.U.map IR.l = (rowM S).bt)
      (fun r => many (own b 122 (rowM S).s.cells :: bldChunks r.1 (rowM S).l r.2)) w) := by
  have hn := S.val_range (m := 2) (by omega)
  refine calls_cw (args := [_]) Try.func44 rfl (Mem.start_many _ hφ hb) rfl ?_
  refine cw_seq fun K1 hK1 => ?_
  refine cw_region ?_
  refine ow_ev ev_assign ?_
  refine ow_nil (hK1 _ _ ?_); clear hK1
  refine cw_seq fun K2 hK2 => ?_
  refine cw_region ?_
  refine ow_ev (ev_build [.slice none 0 0, .slice none 0 0, .slice none 0 0, .slice none 0 0, .slice none 0 0, .slice none 0 0, .slice none 0 0]) ?_
  refine ow_cons (st_box (k := fun b14 => ?_))
  refine ow_ev ev_assign ?_
  refine ow_nil (hK2 _ _ ?_); clear hK2
  refine cw_seq fun K3 hK3 => ?_
  refine cw_region ?_
  refine ow_ev ev_move ?_
  refine ow_cons (st_callM (cs := [own b 122 (S).cells]) (fun w hm hφ hb => next_spec' w b (S) 2 (by omega) (by omega) hS (hA.mv hm (by repeat (first | exact Has.head | apply Has.tail))) hφ hb) (k := fun _ _ => ?_))
  refine ow_ev ev_add ?_
  refine ow_ev ev_assign ?_
  refine ow_nil (hK3 _ _ ?_); clear hK3
  refine cw_seq fun K4 hK4 => ?_
  refine cw_seq fun K5 hK5 => ?_
  refine cw_region ?_
  refine ow_ev ev_assign ?_
  refine ow_nil (hK5 _ _ ?_); clear hK5
  refine cw_block ?_
  refine cw_loop (γ := Nat × Src × Lay × BV) (env := fun g => [(0, .v (.pointer (some ⟨b, 0, none⟩))), (3, .v (.pointer (some ⟨b14, 0, none⟩))), (4, .v (.int .i64 (2 + S.val 2))), (5, .v (.int .i64 (g.1 : Int)))]) (mem := fun g => own b 122 g.2.1.cells :: (bldChunks b14 g.2.2.1 g.2.2.2 ++ [oldBut w (many [own b 122 S.cells]).fp])) (R := fun g => g.1 ≤ (2 + S.val 2).toNat ∧ g.2.1.Ok ∧ SrcAt w b g.2.1 ∧ statN (⟨S.next, ⟨[], [], [], []⟩, [], []⟩ : RowS) g.1 = ⟨g.2.1, g.2.2.1, g.2.2.2.T.map IR.l, g.2.2.2.U.map IR.l⟩ ∧ (g.2.2.1.stations.length = g.1 ∧ g.2.2.1.sections.length ≤ 2 * g.1 ∧ g.2.2.1.points = [] ∧ g.2.2.1.links = [] ∧ g.2.2.2.T.length = g.1 ∧ g.2.2.2.U = []) ∧ (∀ r ∈ g.2.2.2.T, 1 ≤ r.l.length ∧ r.l.length ≤ 2)) (μ := fun g => (2 + S.val 2).toNat - g.1) ((0, S.next, ⟨[], [], [], []⟩, ⟨⟨none, 0, none, 0, none, 0, none, 0⟩, [], none, 0, [], none, 0⟩)) (⟨Nat.zero_le _, hS.next, hA.next, rfl, ⟨rfl, Nat.zero_le _, rfl, rfl, rfl, rfl⟩, fun r hr => by cases hr⟩) ⟨rfl, rfl, rfl, rfl, trivial⟩ (fun w hm => ((((((((hm.row_nil 9 1).row_nil 9 1).row_nil 31 5).row_nil 91 6).row_nil 22 1).row_nil 22 1).many_nil).many_nil).reord) ?_
  intro g hR1 KL1 hL1
  obtain ⟨i, s, l, ⟨v, T, ta, tc, U, ba, bc⟩⟩ := g
  unfold bldChunks
  dsimp only [List.cons_append, List.nil_append] at hR1 ⊢
  obtain ⟨hi, hs, ha, hst, ⟨hl1, hl2, hl3, hl4, hT, hU⟩, hTl⟩ := hR1
  have hv := s.val_range (m := 2) (by omega)
  refine cw_seq fun K6 hK6 => ?_
  refine cw_seq fun K7 hK7 => ?_
  refine cw_region ?_
  refine ow_ev ev_move ?_
  refine ow_ev ev_move ?_
  refine ow_ev ev_lss ?_
  refine ow_nil (hK7 _ _ ?_); clear hK7
  refine cw_if rfl (fun hc1 => ?_) (fun hc1 => ?_)  -- t20
  ·
    refine cw_skip (hK6 _ _ ?_); clear hK6
    refine cw_seq fun K8 hK8 => ?_
    refine cw_block ?_
    refine cw_seq fun K9 hK9 => ?_
    refine cw_region_z [own b14 83 [.slice v.a1 l.stations.length v.c1, .slice v.a2 l.points.length v.c2, .slice v.a3 l.sections.length v.c3, .slice v.a4 l.links.length v.c4, .slice ta T.length tc, .slice ba U.length bc, .slice none 0 0], oldBut w (many [own b 122 S.cells]).fp] 13 ?_
    refine az_ev 0 rfl ev_move ?_
    refine az_ev 1 rfl ev_move ?_
    refine az_ev 2 rfl ev_nilcheck ?_
    refine az_ev 3 rfl (ev_field_addr 0) ?_
    refine az_ev 4 rfl (ev_field_addr 0) ?_
    refine az_ev 5 rfl ev_load_own ?_
    refine az_ev 6 rfl ev_move ?_
    refine az_one 7 rfl (st_callv (fun w hm => named_spec w [83] i (by decide) (by omega)) ⟨fun w hm => hm.sub (by repeat (first | exact List.Sublist.refl _ | apply List.Sublist.cons_cons | apply List.Sublist.cons)), ?_⟩)
    refine az_one 8 rfl (st_buildSlice 9 [.string (nm1 83 i)] (k := fun b31 => ⟨fun w hm => hm.sub (by repeat (first | exact List.Sublist.refl _ | apply List.Sublist.cons_cons | apply List.Sublist.cons)), ?_⟩))
    refine az_one 9 rfl (st_append_own 16 (k := fun a' cap' => ⟨fun w hm => hm.sub (by repeat (first | exact List.Sublist.refl _ | apply List.Sublist.cons_cons | apply List.Sublist.cons)), ?_⟩))
    refine az_ev 10 rfl ev_nilcheck ?_
    refine az_ev 11 rfl (ev_field_addr 0) ?_
    refine az_ev 12 rfl (ev_field_addr 0) ?_
    refine az_last rfl (st_store_own (k := ?_))
    refine az_done (hK9 _ _ ?_); clear hK9
    refine cw_seq fun K10 hK10 => ?_
    refine cw_region ?_
    refine ow_ev ev_assign ?_
    refine ow_nil (hK10 _ _ ?_); clear hK10
    refine cw_seq fun K11 hK11 => ?_
    refine cw_seq fun K12 hK12 => ?_
    refine cw_region ?_
    refine ow_ev ev_move ?_
    refine ow_cons (st_callM (cs := [own b 122 (s).cells]) (fun w hm hφ hb => next_spec' w b (s) 2 (by omega) (by omega) hs (ha.mv hm (by repeat (first | exact Has.head | apply Has.tail))) hφ hb) (k := fun _ _ => ?_))
    refine ow_ev ev_add ?_
    refine ow_ev ev_assign ?_
    refine ow_nil (hK12 _ _ ?_); clear hK12
    refine cw_block ?_
    refine cw_loop (γ := Int × Src × List Sec × Option Addr × Nat × List Int × Option Addr × Nat) (env := fun g => [(0, .v (.pointer (some ⟨b, 0, none⟩))), (3, .v (.pointer (some ⟨b14, 0, none⟩))), (4, .v (.int .i64 (2 + S.val 2))), (5, .v (.int .i64 (i : Int))), (6, .v (.slice g.2.2.2.2.2.2.1 g.2.2.2.2.2.1.length g.2.2.2.2.2.2.2)), (7, .v (.int .i64 g.1))]) (mem := fun g => [own b 122 g.2.1.cells, own b14 83 [.slice a' (l.stations.length + 1) cap', .slice v.a2 l.points.length v.c2, .slice g.2.2.2.1 g.2.2.1.length g.2.2.2.2.1, .slice v.a4 l.links.length v.c4, .slice ta T.length tc, .slice ba U.length bc, .slice none 0 0], row 9 1 a' (l.stations.length + 1) cap' (strCells l.stations ++ [.string (nm1 83 i)]), row 31 5 g.2.2.2.1 (g.2.2.1).length g.2.2.2.2.1 ((g.2.2.1).flatMap Sec.cells), row 9 1 v.a2 l.points.length v.c2 (strCells l.points), row 91 6 v.a4 l.links.length v.c4 (l.links.flatMap Lnk.cells), row 22 1 ta T.length tc (T.map IR.hdr), row 22 1 ba U.length bc (U.map IR.hdr), many (T.map (IR.chunk 3)), many (U.map (IR.chunk 3)), row 3 1 g.2.2.2.2.2.2.1 (g.2.2.2.2.2.1).length g.2.2.2.2.2.2.2 ((g.2.2.2.2.2.1).map (.int .i64)), oldBut w (many [own b 122 S.cells]).fp]) (R := fun g => 0 ≤ g.1 ∧ g.2.1.Ok ∧ SrcAt w b g.2.1 ∧ secLoop 2 84 i (i) g.1.toNat g.2.1 g.2.2.1 g.2.2.2.2.2.1 = secLoop 2 84 i (i) (1 + s.val 2).toNat s.next l.sections [] ∧ (g.2.2.1.length + g.1 = l.sections.length + (1 + s.val 2) ∧ g.2.2.2.2.2.1.length + g.1 = 1 + s.val 2)) (μ := fun g => g.1.toNat) ((1 + s.val 2, s.next, l.sections, v.a3, v.c3, [], none, 0)) (⟨by show 0 ≤ 1 + s.val 2; omega, hs.next, ha.next, rfl, rfl, by show ((0 : Nat) : Int) + _ = _; omega⟩) ⟨rfl, rfl, rfl, rfl, rfl, rfl, trivial⟩ (fun w hm => (hm.row_nil 3 1).reord) ?_
    intro g hR2 KL2 hL2
    obtain ⟨k, s2, se, a3, c3, t, at_, ct⟩ := g
    dsimp only at hR2 ⊢
    obtain ⟨hk, hs2, ha2, hsl2, hb1, hb2⟩ := hR2
    have hx := s2.val_range (m := 9) (by omega)
    refine cw_seq fun K13 hK13 => ?_
    refine cw_seq fun K14 hK14 => ?_
    refine cw_region ?_
    refine ow_ev ev_move ?_
    refine ow_ev ev_gtr ?_
    refine ow_nil (hK14 _ _ ?_); clear hK14
    refine cw_if rfl (fun hc2 => ?_) (fun hc2 => ?_)  -- t40
    ·
      refine cw_skip (hK13 _ _ ?_); clear hK13
      refine cw_seq fun K15 hK15 => ?_
      refine cw_block ?_
      refine cw_seq fun K16 hK16 => ?_
      refine cw_region ?_
      refine ow_ev ev_move ?_
      refine ow_ev ev_move ?_
      refine ow_cons (st_callv (fun w hm => named_spec w [84] i (by decide) (by omega)) ?_)
      refine ow_ev ev_move ?_
      refine ow_cons (st_callv (fun w hm => named_spec w ([84] ++ [UInt8.ofNat (48 + i % 10)]) k (by simp) (by omega)) ?_)
      refine ow_ev ev_move ?_
      refine ow_cons (st_callM (cs := [own b 122 s2.cells]) (fun w hm hφ hb => section_spec w b s2 (nm2 84 i k.toNat) (i) hs2 (ha2.mv hm (by repeat (first | exact Has.head | apply Has.tail))) hφ hb) (k := fun _ _ => ?_))
      refine ow_cons (st_alloc rfl (k := fun b8 => ?_))
      refine ow_cons (st_store_all (k := ?_))
      refine ow_nil (hK16 _ _ ?_); clear hK16
      refine cw_seq fun K17 hK17 => ?_
      refine cw_region ?_
      refine ow_ev (ev_field_addr 1) ?_
      refine ow_ev (ev_load_own (v := .int .i64 (2 + s2.val 9))) ?_
      refine ow_ev ev_add ?_
      refine ow_ev (ev_field_addr 1) ?_
      refine ow_cons (st_store_own (k := ?_))
      refine ow_nil (hK17 _ _ ?_); clear hK17
      refine cw_region ?_
      refine ow_ev ev_move ?_
      refine ow_ev ev_move ?_
      refine ow_ev ev_load_all ?_
      refine ow_cons (st_callM (cs := [own b14 83 [.slice a' (l.stations.length + 1) cap', .slice v.a2 l.points.length v.c2, .slice a3 se.length c3, .slice v.a4 l.links.length v.c4, .slice ta T.length tc, .slice ba U.length bc, .slice none 0 0], row 31 5 a3 (se).length c3 ((se).flatMap Sec.cells)]) (fun w hm hφ hb => add_spec w b14 [.slice a' (l.stations.length + 1) cap', .slice v.a2 l.points.length v.c2, .slice a3 se.length c3, .slice v.a4 l.links.length v.c4, .slice ta T.length tc, .slice ba U.length bc, .slice none 0 0] a3 se.length c3 (se.flatMap Sec.cells) (secX2 2 (s2.sec (nm2 84 i k.toNat) i)) rfl (by omega) hφ hb) (k := fun r _ => ?_))
      refine ow_cons (st_buildSlice 3 [.int .i64 se.length] (k := fun b58 => ?_))
      refine ow_cons (st_append_own 8 (k := fun a9 c9 => ?_))
      refine ow_ev ev_assign ?_
      refine ow_nil (hK15 _ _ ?_); clear hK15
      refine cw_region ?_
      refine ow_ev ev_move ?_
      refine ow_ev ev_sub ?_
      refine ow_ev ev_assign ?_
      refine ow_nil (hL2 ((k - 1, s2.next.next.next, se ++ [secX2 2 (s2.sec (nm2 84 i k.toNat) (i))], r.1, r.2, t ++ [(se.length : Int)], a9, c9)) _ _ (⟨by show 0 ≤ k - 1; omega, hs2.next.next.next, ha2.next.next.next, secLoop_dec hc2 hsl2, by show ((se ++ [_]).length : Int) + (k - 1) = _; rw [List.length_append]; simp; omega, by show ((t ++ [_]).length : Int) + (k - 1) = _; rw [List.length_append]; simp; omega⟩) (by show (k - 1).toNat < k.toNat; omega) ⟨rfl, rfl, rfl, rfl, by simp only [List.length_append, List.length_singleton]; rfl, rfl, trivial⟩ (fun w hm => by dsimp only; simp only [List.length_append, List.length_singleton, List.flatMap_append, List.flatMap_singleton, List.map_append, List.map_singleton, strCells, secX2_0, fanN_len, fanL_len, chainL_len]; exact hm.reord))
    ·
      refine cw_exit (hK11 _ _ ?_); clear hK11
      obtain rfl : k = 0 := by omega
      refine cw_region ?_
      refine ow_ev ev_move ?_
      refine ow_ev ev_move ?_
      refine ow_ev ev_nilcheck ?_
      refine ow_ev (ev_field_addr 4) ?_
      refine ow_ev ev_load_own ?_
      refine ow_ev ev_move ?_
      refine ow_cons (st_buildSlice 22 [.slice at_ t.length ct] (k := fun b66 => ?_))
      refine ow_cons (st_append_own 24 (k := fun a6 c6 => ?_))
      refine ow_ev ev_nilcheck ?_
      refine ow_ev (ev_field_addr 4) ?_
      refine ow_cons (st_store_own (k := ?_))
      refine ow_nil (hK8 _ _ ?_); clear hK8
      refine cw_region ?_
      refine ow_ev ev_move ?_
      refine ow_ev ev_add ?_
      refine ow_ev ev_assign ?_
      refine ow_nil (hL1 ((i + 1, s2, ⟨l.stations ++ [nm1 83 i], l.points, se, l.links⟩, ⟨⟨a', cap', v.a2, v.c2, a3, c3, v.a4, v.c4⟩, T ++ [⟨at_, ct, t⟩], a6, c6, U, ba, bc⟩)) _ _ (⟨by show i + 1 ≤ _; omega, hs2, ha2, stat_next (ir := ⟨at_, ct, t⟩) hst hsl2.symm, ⟨by show (l.stations ++ [_]).length = _; rw [List.length_append, hl1]; rfl, by show se.length ≤ 2 * (i + 1); omega, hl3, hl4, by show (T ++ [_]).length = _; rw [List.length_append, hT]; rfl, hU⟩, by intro r hr; rcases List.mem_append.1 hr with hr | hr; (exact hTl r hr); (obtain rfl := List.mem_singleton.1 hr; show 1 ≤ t.length ∧ t.length ≤ 2; omega)⟩) (by show _ - (i + 1) < _; omega) ⟨rfl, rfl, rfl, rfl, trivial⟩ (fun w hm => by unfold bldChunks; dsimp only [List.cons_append, List.nil_append]; simp only [List.length_append, List.length_singleton, List.flatMap_append, List.flatMap_singleton, List.map_append, List.map_singleton, strCells, secX2_0, fanN_len, fanL_len, chainL_len]; exact (hm.snoc (cs := T.map (IR.chunk 3)) (c := IR.chunk 3 ⟨at_, ct, t⟩)).reord))
  ·
    refine cw_exit (hK4 _ _ ?_); clear hK4
    obtain rfl : i = (2 + S.val 2).toNat := by omega
    refine cw_seq fun K18 hK18 => ?_
    refine cw_seq fun K19 hK19 => ?_
    refine cw_region ?_
    refine ow_ev ev_assign ?_
    refine ow_nil (hK19 _ _ ?_); clear hK19
    refine cw_block ?_
    clear hi hv
    refine cw_loop (γ := Nat × Src × Lay × BV) (env := fun g => [(0, .v (.pointer (some ⟨b, 0, none⟩))), (3, .v (.pointer (some ⟨b14, 0, none⟩))), (4, .v (.int .i64 (2 + S.val 2))), (9, .v (.int .i64 (g.1 : Int)))]) (mem := fun g => own b 122 g.2.1.cells :: (bldChunks b14 g.2.2.1 g.2.2.2 ++ [oldBut w (many [own b 122 S.cells]).fp])) (R := fun g => g.1 + 1 ≤ (2 + S.val 2).toNat ∧ g.2.1.Ok ∧ SrcAt w b g.2.1 ∧ midN (statN (⟨S.next, ⟨[], [], [], []⟩, [], []⟩ : RowS) (2 + S.val 2).toNat) g.1 = ⟨g.2.1, g.2.2.1, g.2.2.2.T.map IR.l, g.2.2.2.U.map IR.l⟩ ∧ (g.2.2.1.stations.length ≤ 3 ∧ g.2.2.1.sections.length ≤ 6 + 2 * g.1 ∧ g.2.2.1.points.length ≤ 2 * g.1 ∧ g.2.2.1.links.length ≤ 5 * g.1 ∧ g.2.2.2.T.length = (2 + S.val 2).toNat ∧ g.2.2.2.U.length = g.1) ∧ (∀ r ∈ g.2.2.2.T, 1 ≤ r.l.length ∧ r.l.length ≤ 2)) (μ := fun g => (2 + S.val 2).toNat - g.1) ((0, s, l, ⟨v, T, ta, tc, U, ba, bc⟩)) (⟨by show 0 + 1 ≤ _; omega, hs, ha, hst, ⟨by show l.stations.length ≤ 3; omega, by show l.sections.length ≤ 6 + 2 * 0; omega, by show l.points.length ≤ _; rw [hl3]; exact Nat.zero_le _, by show l.links.length ≤ _; rw [hl4]; exact Nat.zero_le _, hT, by show U.length = 0; rw [hU]; rfl⟩, hTl⟩) ⟨rfl, rfl, rfl, rfl, trivial⟩ (fun _ h => h) ?_
    intro g hR3 KL3 hL3
    obtain ⟨i, s, l, ⟨v, T, ta, tc, U, ba, bc⟩⟩ := g
    unfold bldChunks
    dsimp only [List.cons_append, List.nil_append] at hR3 ⊢
    obtain ⟨hi, hs, ha, hst, ⟨hl1, hl2, hl3, hl4, hT, hU⟩, hTl⟩ := hR3
    have hv := s.val_range (m := 2) (by omega)
    refine cw_seq fun K20 hK20 => ?_
    refine cw_seq fun K21 hK21 => ?_
    refine cw_region ?_
    refine ow_ev ev_move ?_
    refine ow_ev ev_add ?_
    refine ow_ev ev_move ?_
    refine ow_ev ev_lss ?_
    refine ow_nil (hK21 _ _ ?_); clear hK21
    refine cw_if rfl (fun hc3 => ?_) (fun hc3 => ?_)  -- t73
    ·
      refine cw_skip (hK20 _ _ ?_); clear hK20
      refine cw_seq fun K22 hK22 => ?_
      refine cw_block ?_
      refine cw_seq fun K23 hK23 => ?_
      refine cw_region ?_
      refine ow_ev ev_assign ?_
      refine ow_nil (hK23 _ _ ?_); clear hK23
      refine cw_seq fun K24 hK24 => ?_
      refine cw_seq fun K25 hK25 => ?_
      refine cw_region ?_
      refine ow_ev ev_move ?_
      refine ow_cons (st_callM (cs := [own b 122 (s).cells]) (fun w hm hφ hb => next_spec' w b (s) 2 (by omega) (by omega) hs (ha.mv hm (by repeat (first | exact Has.head | apply Has.tail))) hφ hb) (k := fun _ _ => ?_))
      refine ow_ev ev_add ?_
      refine ow_ev ev_assign ?_
      refine ow_nil (hK25 _ _ ?_); clear hK25
      refine cw_block ?_
      refine cw_loop (γ := Int × Src × List Sec × Option Addr × Nat × List Int × Option Addr × Nat) (env := fun g => [(0, .v (.pointer (some ⟨b, 0, none⟩))), (3, .v (.pointer (some ⟨b14, 0, none⟩))), (4, .v (.int .i64 (2 + S.val 2))), (9, .v (.int .i64 (i : Int))), (10, .v (.slice g.2.2.2.2.2.2.1 g.2.2.2.2.2.1.length g.2.2.2.2.2.2.2)), (11, .v (.int .i64 g.1))]) (mem := fun g => [own b 122 g.2.1.cells, own b14 83 [.slice v.a1 l.stations.length v.c1, .slice v.a2 l.points.length v.c2, .slice g.2.2.2.1 g.2.2.1.length g.2.2.2.2.1, .slice v.a4 l.links.length v.c4, .slice ta T.length tc, .slice ba U.length bc, .slice none 0 0], row 9 1 v.a1 l.stations.length v.c1 (strCells l.stations), row 31 5 g.2.2.2.1 (g.2.2.1).length g.2.2.2.2.1 ((g.2.2.1).flatMap Sec.cells), row 9 1 v.a2 l.points.length v.c2 (strCells l.points), row 91 6 v.a4 l.links.length v.c4 (l.links.flatMap Lnk.cells), row 22 1 ta T.length tc (T.map IR.hdr), row 22 1 ba U.length bc (U.map IR.hdr), many (T.map (IR.chunk 3)), many (U.map (IR.chunk 3)), row 3 1 g.2.2.2.2.2.2.1 (g.2.2.2.2.2.1).length g.2.2.2.2.2.2.2 ((g.2.2.2.2.2.1).map (.int .i64)), oldBut w (many [own b 122 S.cells]).fp]) (R := fun g => 0 ≤ g.1 ∧ g.2.1.Ok ∧ SrcAt w b g.2.1 ∧ secLoop 0 76 i (-1) g.1.toNat g.2.1 g.2.2.1 g.2.2.2.2.2.1 = secLoop 0 76 i (-1) (1 + s.val 2).toNat s.next l.sections [] ∧ (g.2.2.1.length + g.1 = l.sections.length + (1 + s.val 2) ∧ g.2.2.2.2.2.1.length + g.1 = 1 + s.val 2)) (μ := fun g => g.1.toNat) ((1 + s.val 2, s.next, l.sections, v.a3, v.c3, [], none, 0)) (⟨by show 0 ≤ 1 + s.val 2; omega, hs.next, ha.next, rfl, rfl, by show ((0 : Nat) : Int) + _ = _; omega⟩) ⟨rfl, rfl, rfl, rfl, rfl, rfl, trivial⟩ (fun w hm => (hm.row_nil 3 1).reord) ?_
      intro g hR4 KL4 hL4
      obtain ⟨k, s2, se, a3, c3, t, at_, ct⟩ := g
      dsimp only at hR4 ⊢
      obtain ⟨hk, hs2, ha2, hsl2, hb1, hb2⟩ := hR4
      have hx := s2.val_range (m := 9) (by omega)
      refine cw_seq fun K26 hK26 => ?_
      refine cw_seq fun K27 hK27 => ?_
      refine cw_region ?_
      refine ow_ev ev_move ?_
      refine ow_ev ev_gtr ?_
      refine ow_nil (hK27 _ _ ?_); clear hK27
      refine cw_if rfl (fun hc4 => ?_) (fun hc4 => ?_)  -- t80
      ·
        refine cw_skip (hK26 _ _ ?_); clear hK26
        refine cw_seq fun K28 hK28 => ?_
        refine cw_block ?_
        refine cw_region ?_
        refine ow_ev ev_move ?_
        refine ow_ev ev_move ?_
        refine ow_ev ev_move ?_
        refine ow_ev ev_move ?_
        refine ow_cons (st_callv (fun w hm => named_spec w [76] i (by decide) (by omega)) ?_)
        refine ow_ev ev_move ?_
        refine ow_cons (st_callv (fun w hm => named_spec w ([76] ++ [UInt8.ofNat (48 + i % 10)]) k (by simp) (by omega)) ?_)
        refine ow_cons (st_callM (cs := [own b 122 s2.cells]) (fun w hm hφ hb => section_spec w b s2 (nm2 76 i k.toNat) (-1) hs2 (ha2.mv hm (by repeat (first | exact Has.head | apply Has.tail))) hφ hb) (k := fun _ _ => ?_))
        refine ow_cons (st_callM (cs := [own b14 83 [.slice v.a1 l.stations.length v.c1, .slice v.a2 l.points.length v.c2, .slice a3 se.length c3, .slice v.a4 l.links.length v.c4, .slice ta T.length tc, .slice ba U.length bc, .slice none 0 0], row 31 5 a3 (se).length c3 ((se).flatMap Sec.cells)]) (fun w hm hφ hb => add_spec w b14 [.slice v.a1 l.stations.length v.c1, .slice v.a2 l.points.length v.c2, .slice a3 se.length c3, .slice v.a4 l.links.length v.c4, .slice ta T.length tc, .slice ba U.length bc, .slice none 0 0] a3 se.length c3 (se.flatMap Sec.cells) (s2.sec (nm2 76 i k.toNat) (-1)) rfl (by omega) hφ hb) (k := fun r _ => ?_))
        refine ow_cons (st_buildSlice 3 [.int .i64 se.length] (k := fun b92 => ?_))
        refine ow_cons (st_append_own 8 (k := fun a9 c9 => ?_))
        refine ow_ev ev_assign ?_
        refine ow_nil (hK28 _ _ ?_); clear hK28
        refine cw_region ?_
        refine ow_ev ev_move ?_
        refine ow_ev ev_sub ?_
        refine ow_ev ev_assign ?_
        refine ow_nil (hL4 ((k - 1, s2.next.next.next, se ++ [secX2 0 (s2.sec (nm2 76 i k.toNat) (-1))], r.1, r.2, t ++ [(se.length : Int)], a9, c9)) _ _ (⟨by show 0 ≤ k - 1; omega, hs2.next.next.next, ha2.next.next.next, secLoop_dec hc4 hsl2, by show ((se ++ [_]).length : Int) + (k - 1) = _; rw [List.length_append]; simp; omega, by show ((t ++ [_]).length : Int) + (k - 1) = _; rw [List.length_append]; simp; omega⟩) (by show (k - 1).toNat < k.toNat; omega) ⟨rfl, rfl, rfl, rfl, by simp only [List.length_append, List.length_singleton]; rfl, rfl, trivial⟩ (fun w hm => by dsimp only; simp only [List.length_append, List.length_singleton, List.flatMap_append, List.flatMap_singleton, List.map_append, List.map_singleton, strCells, secX2_0, fanN_len, fanL_len, chainL_len]; exact hm.reord))
      ·
        refine cw_exit (hK24 _ _ ?_); clear hK24
        obtain rfl : k = 0 := by omega
        obtain ⟨r1, hr1⟩ : ∃ r, T[i]? = some r := ⟨_, List.getElem?_eq_getElem (by omega)⟩
        obtain ⟨r2, hr2⟩ : ∃ r, T[i + 1]? = some r := ⟨_, List.getElem?_eq_getElem (by omega)⟩
        have hq1 := hTl r1 (List.mem_of_getElem? hr1)
        have hq2 := hTl r2 (List.mem_of_getElem? hr2)
        refine cw_seq fun K29 hK29 => ?_
        refine cw_seq fun K30 hK30 => ?_
        refine cw_region ?_
        refine ow_ev ev_assign ?_
        refine ow_nil (hK30 _ _ ?_); clear hK30
        refine cw_block ?_
        refine cw_loop (γ := Nat × Nat × Option Addr × Nat × List Value) (env := fun g => [(0, .v (.pointer (some ⟨b, 0, none⟩))), (3, .v (.pointer (some ⟨b14, 0, none⟩))), (4, .v (.int .i64 (2 + S.val 2))), (9, .v (.int .i64 (i : Int))), (10, .v (.slice at_ t.length ct)), (12, .v (.int .i64 (g.1 : Int)))]) (mem := fun g => [own b 122 s2.cells, own b14 83 [.slice v.a1 l.stations.length v.c1, .slice v.a2 l.points.length v.c2, .slice a3 se.length c3, .slice g.2.2.1 g.2.1 g.2.2.2.1, .slice ta T.length tc, .slice ba U.length bc, .slice none 0 0], row 9 1 v.a1 l.stations.length v.c1 (strCells l.stations), row 9 1 v.a2 l.points.length v.c2 (strCells l.points), row 31 5 a3 (se).length c3 ((se).flatMap Sec.cells), row 91 6 g.2.2.1 g.2.1 g.2.2.2.1 g.2.2.2.2, row 22 1 ta T.length tc (T.map IR.hdr), row 22 1 ba U.length bc (U.map IR.hdr), many (T.map (IR.chunk 3)), many (U.map (IR.chunk 3)), row 3 1 at_ (t).length ct ((t).map (.int .i64)), oldBut w (many [own b 122 S.cells]).fp]) (R := fun g => g.1 ≤ t.length - 1 ∧ g.2.1 = l.links.length + g.1 ∧ g.2.2.2.2 = l.links.flatMap Lnk.cells ++ (chainL t g.1).flatMap Lnk.cells) (μ := fun g => t.length - g.1) ((0, l.links.length, v.a4, v.c4, l.links.flatMap Lnk.cells)) (⟨Nat.zero_le _, rfl, (List.append_nil _).symm⟩) ⟨rfl, rfl, rfl, rfl, rfl, rfl, trivial⟩ (fun w hm => hm.reord) ?_
        intro g hR5 KL5 hL5
        obtain ⟨j, m5, a4, c4, ks5⟩ := g
        dsimp only at hR5 ⊢
        obtain ⟨hj, hm5, hks5⟩ := hR5
        refine cw_seq fun K31 hK31 => ?_
        refine cw_seq fun K32 hK32 => ?_
        refine cw_region ?_
        refine ow_ev ev_move ?_
        refine ow_ev ev_add ?_
        refine ow_ev ev_move ?_
        refine ow_ev ev_len ?_
        refine ow_ev ev_lss ?_
        refine ow_nil (hK32 _ _ ?_); clear hK32
        refine cw_if rfl (fun hc5 => ?_) (fun hc5 => ?_)  -- t98
        ·
          refine cw_skip (hK31 _ _ ?_); clear hK31
          refine cw_seq fun K33 hK33 => ?_
          refine cw_block ?_
          refine cw_region_any [row 3 1 at_ (t).length ct ((t).map (.int .i64)), oldBut w (many [own b 122 S.cells]).fp] (by repeat (first | exact List.Sublist.refl _ | apply List.Sublist.cons_cons | apply List.Sublist.cons)) ?_
          refine aw_ev 0 rfl ev_move ?_
          refine aw_ev 1 rfl ev_move ?_
          refine aw_ev 2 rfl ev_move ?_
          refine aw_ev 3 rfl (ev_index_row 1) ?_
          refine aw_ev 4 rfl (ev_load_at (v := .int .i64 (t.getD j 0)) (cell_row (j := (j : Int).toNat * 1) (by rw [Nat.mul_one]; exact ints_get (by omega)) (by repeat (first | exact Has.head | apply Has.tail)))) ?_
          refine aw_ev 5 rfl ev_move ?_
          refine aw_ev 6 rfl ev_move ?_
          refine aw_ev 7 rfl ev_add ?_
          refine aw_ev 8 rfl (ev_index_row 1) ?_
          refine aw_ev 9 rfl (ev_load_at (v := .int .i64 (t.getD (j + 1) 0)) (cell_row (j := ((j : Int) + 1).toNat * 1) (by rw [Nat.mul_one]; exact ints_get (by omega)) (by repeat (first | exact Has.head | apply Has.tail)))) ?_
          refine aw_one 10 rfl (st_callM (cs := [own b14 83 [.slice v.a1 l.stations.length v.c1, .slice v.a2 l.points.length v.c2, .slice a3 se.length c3, .slice a4 m5 c4, .slice ta T.length tc, .slice ba U.length bc, .slice none 0 0], row 91 6 a4 m5 c4 ks5]) (fun w hm hφ hb => link_spec w b14 _ _ _ _ _ _ a4 m5 c4 ks5 (t.getD j 0) (t.getD (j + 1) 0) (-1) 0 (by omega) hφ hb) (k := fun r _ => ⟨fun w hm => hm.reord, ?_⟩))
          refine aw_done (hK33 _ _ ?_); clear hK33
          refine cw_region ?_
          refine ow_ev ev_move ?_
          refine ow_ev ev_add ?_
          refine ow_ev ev_assign ?_
          refine ow_nil (hL5 ((j + 1, m5 + 1, r.1, r.2, ks5 ++ (⟨t.getD j 0, 1, t.getD (j + 1) 0, 0, -1, 0⟩ : Lnk).cells)) _ _ (⟨by show j + 1 ≤ _; omega, by show m5 + 1 = l.links.length + (j + 1); omega, by show ks5 ++ _ = _; rw [chainL_step, hks5, List.append_assoc]⟩) (by show _ - (j + 1) < _; omega) ⟨rfl, rfl, rfl, rfl, rfl, rfl, trivial⟩ (fun w hm => hm.reord))
        ·
          refine cw_exit (hK29 _ _ ?_); clear hK29
          obtain rfl : j = t.length - 1 := by omega
          refine cw_seq fun K34 hK34 => ?_
          refine cw_region_z [own b14 83 [.slice v.a1 l.stations.length v.c1, .slice v.a2 l.points.length v.c2, .slice a3 se.length c3, .slice a4 m5 c4, .slice ta T.length tc, .slice ba U.length bc, .slice none 0 0], row 22 1 ta T.length tc (T.map IR.hdr), row 3 1 at_ (t).length ct ((t).map (.int .i64)), oldBut w (many [own b 122 S.cells]).fp] 11 ?_
          refine az_ev 0 rfl ev_move ?_
          refine az_ev 1 rfl ev_move ?_
          refine az_ev 2 rfl (ev_index_row 1) ?_
          refine az_ev 3 rfl (ev_load_at (v := .int .i64 (t.getD 0 0)) (cell_row (j := (0 : Int).toNat * 1) (ints_get (by omega)) (by repeat (first | exact Has.head | apply Has.tail)))) ?_
          refine az_ev 4 rfl ev_move ?_
          refine az_ev 5 rfl ev_nilcheck ?_
          refine az_ev 6 rfl (ev_field_addr 4) ?_
          refine az_ev 7 rfl ev_load_own ?_
          refine az_ev 8 rfl ev_move ?_
          refine az_ev 9 rfl (ev_index_row 1) ?_
          refine az_ev 10 rfl (ev_load_at (v := .slice r1.a r1.l.length r1.cap) (cell_row (j := (i : Int).toNat * 1) (by rw [Nat.mul_one]; exact ir_hdr hr1) (by repeat (first | exact Has.head | apply Has.tail)))) ?_
          refine az_last rfl (st_callM (cs := [own b14 83 [.slice v.a1 l.stations.length v.c1, .slice v.a2 l.points.length v.c2, .slice a3 se.length c3, .slice a4 m5 c4, .slice ta T.length tc, .slice ba U.length bc, .slice none 0 0], row 9 1 v.a2 l.points.length v.c2 (strCells l.points), row 91 6 a4 m5 c4 ks5]) (fun w hm hφ hb => fan_spec w b14 _ _ _ _ _ v.a2 a4 l.points.length v.c2 m5 c4 (strCells l.points) ks5 (t.getD 0 0) r1.a r1.cap r1.l false (by omega) (by omega) (by omega) (ir_sl hr1 hm (by repeat (first | exact Has.head | apply Has.tail))) (ir_apart hr1 hm (by repeat (first | exact SelL.nil | (apply SelL.cons; · (repeat (first | exact Sel.head | apply Sel.tail))))) (by repeat (first | exact Has.head | apply Has.tail))) hφ hb) (k := fun q1 _ => ?_))
          refine az_done (hK34 _ _ ?_); clear hK34
          refine cw_seq fun K35 hK35 => ?_
          refine cw_region_z [own b14 83 [.slice v.a1 l.stations.length v.c1, .slice q1.1.1 (l.points.length + fanP r1.l) q1.1.2, .slice a3 se.length c3, .slice q1.2.1 (m5 + r1.l.length) q1.2.2, .slice ta T.length tc, .slice ba U.length bc, .slice none 0 0], row 22 1 ta T.length tc (T.map IR.hdr), row 3 1 at_ (t).length ct ((t).map (.int .i64)), oldBut w (many [own b 122 S.cells]).fp] 15 ?_
          refine az_ev 0 rfl ev_move ?_
          refine az_ev 1 rfl ev_move ?_
          refine az_ev 2 rfl ev_move ?_
          refine az_ev 3 rfl ev_len ?_
          refine az_ev 4 rfl ev_sub ?_
          refine az_ev 5 rfl (ev_index_row 1) ?_
          refine az_ev 6 rfl (ev_load_at (v := .int .i64 (t.getD (t.length - 1) 0)) (cell_row (j := ((t.length : Int) - 1).toNat * 1) (by rw [Nat.mul_one, show ((t.length : Int) - 1).toNat = t.length - 1 by omega]; exact ints_get (by omega)) (by repeat (first | exact Has.head | apply Has.tail)))) ?_
          refine az_ev 7 rfl ev_move ?_
          refine az_ev 8 rfl ev_nilcheck ?_
          refine az_ev 9 rfl (ev_field_addr 4) ?_
          refine az_ev 10 rfl ev_load_own ?_
          refine az_ev 11 rfl ev_move ?_
          refine az_ev 12 rfl ev_add ?_
          refine az_ev 13 rfl (ev_index_row 1) ?_
          refine az_ev 14 rfl (ev_load_at (v := .slice r2.a r2.l.length r2.cap) (cell_row (j := ((i : Int) + 1).toNat * 1) (by rw [Nat.mul_one]; exact ir_hdr hr2) (by repeat (first | exact Has.head | apply Has.tail)))) ?_
          refine az_last rfl (st_callM (cs := [own b14 83 [.slice v.a1 l.stations.length v.c1, .slice q1.1.1 (l.points.length + fanP r1.l) q1.1.2, .slice a3 se.length c3, .slice q1.2.1 (m5 + r1.l.length) q1.2.2, .slice ta T.length tc, .slice ba U.length bc, .slice none 0 0], row 9 1 q1.1.1 (l.points.length + fanP r1.l) q1.1.2 (strCells l.points ++ strCells (fanN l.points.length r1.l)), row 91 6 q1.2.1 (m5 + r1.l.length) q1.2.2 (ks5 ++ (fanL (t.getD 0 0) (fanQ l.points.length r1.l) false r1.l).flatMap Lnk.cells)]) (fun w hm hφ hb => fan_spec w b14 _ _ _ _ _ q1.1.1 q1.2.1 (l.points.length + fanP r1.l) q1.1.2 (m5 + r1.l.length) q1.2.2 _ _ (t.getD (t.length - 1) 0) r2.a r2.cap r2.l true (by have := fanP_le r1.l; omega) (by omega) (by omega) (ir_sl hr2 hm (by repeat (first | exact Has.head | apply Has.tail))) (ir_apart hr2 hm (by repeat (first | exact SelL.nil | (apply SelL.cons; · (repeat (first | exact Sel.head | apply Sel.tail))))) (by repeat (first | exact Has.head | apply Has.tail))) hφ hb) (k := fun q2 _ => ?_))
          refine az_done (hK35 _ _ ?_); clear hK35
          refine cw_region ?_
          refine ow_ev ev_move ?_
          refine ow_ev ev_move ?_
          refine ow_ev ev_nilcheck ?_
          refine ow_ev (ev_field_addr 5) ?_
          refine ow_ev ev_load_own ?_
          refine ow_ev ev_move ?_
          refine ow_cons (st_buildSlice 22 [.slice at_ t.length ct] (k := fun b146 => ?_))
          refine ow_cons (st_append_own 24 (k := fun a7 c7 => ?_))
          refine ow_ev ev_nilcheck ?_
          refine ow_ev (ev_field_addr 5) ?_
          refine ow_cons (st_store_own (k := ?_))
          refine ow_nil (hK22 _ _ ?_); clear hK22
          refine cw_region ?_
          refine ow_ev ev_move ?_
          refine ow_ev ev_add ?_
          refine ow_ev ev_assign ?_
          refine ow_nil (hL3 ((i + 1, s2, ⟨l.stations, (l.points ++ fanN l.points.length r1.l) ++ fanN (l.points ++ fanN l.points.length r1.l).length r2.l, se, ((l.links ++ chainL t (t.length - 1)) ++ fanL (t.getD 0 0) (fanQ l.points.length r1.l) false r1.l) ++ fanL (t.getD (t.length - 1) 0) (fanQ (l.points ++ fanN l.points.length r1.l).length r2.l) true r2.l⟩, ⟨⟨v.a1, v.c1, q2.1.1, q2.1.2, a3, c3, q2.2.1, q2.2.2⟩, T, ta, tc, U ++ [⟨at_, ct, t⟩], a7, c7⟩)) _ _ (⟨by show i + 1 + 1 ≤ _; omega, hs2, ha2, mid_next (ir := ⟨at_, ct, t⟩) hst hsl2.symm hr1 hr2, ⟨hl1, by show se.length ≤ 6 + 2 * (i + 1); omega, by show ((l.points ++ _) ++ _).length ≤ 2 * (i + 1); rw [List.length_append, List.length_append, fanN_len, fanN_len]; have := fanP_le r1.l; have := fanP_le r2.l; omega, by show (((l.links ++ _) ++ _) ++ _).length ≤ 5 * (i + 1); rw [List.length_append, List.length_append, List.length_append, fanL_len, fanL_len, chainL_len]; omega, hT, by show (U ++ [_]).length = _; rw [List.length_append, hU]; rfl⟩, hTl⟩) (by show _ - (i + 1) < _; omega) ⟨rfl, rfl, rfl, rfl, trivial⟩ (fun w hm => by subst hm5 hks5; unfold bldChunks; dsimp only [List.cons_append, List.nil_append]; simp only [List.length_append, List.length_singleton, List.flatMap_append, List.flatMap_singleton, List.map_append, List.map_singleton, strCells, secX2_0, fanN_len, fanL_len, chainL_len]; exact (hm.snoc (cs := U.map (IR.chunk 3)) (c := IR.chunk 3 ⟨at_, ct, t⟩)).reord))
    ·
      refine cw_exit (hK18 _ _ ?_); clear hK18
      refine cw_seq fun K36 hK36 => ?_
      refine cw_region ?_
      refine ow_ev ev_move ?_
      refine ow_ev ev_assign ?_
      refine ow_nil (hK36 _ _ ?_); clear hK36
      refine cw_ret (kw_ret1 rfl rfl (fun w hm => by have e : rowM S = ⟨s, l, T.map IR.l, U.map IR.l⟩ := (by rw [rowM, show (2 + S.val 2).toNat - 1 = i by omega]; exact hst); rw [e]; exact mut_of (cs := [own b 122 S.cells]) (b14, ⟨v, T, ta, tc, U, ba, bc⟩) hm ⟨rfl, rfl⟩ rfl))

end Go.Proofs.Ytnihhidbiepnhaa

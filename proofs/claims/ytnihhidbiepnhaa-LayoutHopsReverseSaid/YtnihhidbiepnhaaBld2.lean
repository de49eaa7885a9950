/- Contracts of keep's builder of layouts: points, links, sections, fans. -/
import Derived.Test.YtnihhidbiepnhaaBld
import Derived.Test.YtnihhidbiepnhaaLim2
namespace Go.Eng
open Go.RowKit
theorem sl_oldBut {w0 w : World} {H : List Chunk} {fp : Nat → Prop} {a : Option Addr} {l : List Value} (hs : Sl 0 w0.heap.size w0 a l) (hn : l ≠ [] → ¬ fp (sb a)) (hm : Mem w0 H w) (hh : Has H (oldBut w0 fp)) : Sl 0 w.heap.size w a l := fun j v hj => by
  obtain ⟨h1, _, h3, _⟩ := hs j v hj
  refine ⟨h1, Nat.zero_le _, by have := hm.size; omega, ?_⟩
  exact cell_oldBut hs hj (Nat.le_refl _) (hn (by rintro rfl; simp at hj)) hh w hm
end Go.Eng
namespace Go.Proofs.Ytnihhidbiepnhaa
open Go.Eng Go.RowKit
set_option maxRecDepth 10000

structure Src.Ok (s : Src) : Prop where
  i0 : 0 ≤ s.i
  i1 : s.i ≤ s.zs.length
  n : s.zs.length ≤ 9223372036854775807
theorem Src.next_a (s : Src) : s.next.a = s.a := by unfold Src.next; split <;> rfl
theorem Src.next_zs (s : Src) : s.next.zs = s.zs := by unfold Src.next; split <;> rfl
theorem Src.Ok.next {s : Src} (h : s.Ok) : s.next.Ok := by
  obtain ⟨h0, h1, h2⟩ := h
  unfold Src.next
  split
  · exact ⟨h0, h1, h2⟩
  · exact ⟨by show 0 ≤ s.i + 1; omega, by show s.i + 1 ≤ s.zs.length; omega, h2⟩
def SrcAt (w : World) (b : Nat) (s : Src) : Prop := Sl 0 w.heap.size w s.a (s.zs.map (.int .i64)) ∧ (s.zs ≠ [] → sb s.a ≠ b)
theorem SrcAt.next {w : World} {b : Nat} {s : Src} (h : SrcAt w b s) : SrcAt w b s.next := by
  unfold SrcAt
  rw [s.next_a, s.next_zs]
  exact h
theorem SrcAt.mv {w0 w : World} {H : List Chunk} {b T : Nat} {s : Src} {cs : List Value} (h : SrcAt w0 b s) (hm : Mem w0 H w) (hh : Has H (oldBut w0 (many [own b T cs]).fp)) : SrcAt w b s :=
  ⟨sl_oldBut h.1 (fun hz => by rintro ⟨c, hc, hk⟩; simp at hc; subst hc; exact h.2 (by rintro hz'; rw [hz'] at hz; exact hz rfl) hk) hm hh, h.2⟩

theorem next_spec' (w : World) (b : Nat) (s : Src) (m : Int) (hm0 : 0 < m) (hm1 : m ≤ 4611686018427387904) (hs : s.Ok) (ha : SrcAt w b s)
    (hφ : (many [own b 122 s.cells]).φ w) (hb : ∀ k, (many [own b 122 s.cells]).fp k → k < w.heap.size) :
    Calls Try.prog 50 #[.pointer (some ⟨b, 0, none⟩), .int .i64 m] w (Mut (many [own b 122 s.cells]) (fun _ : Unit => .int .i64 (s.val m)) (fun _ => True) (fun _ => many [own b 122 s.next.cells]) w) :=
  next_spec w b s m hm0 hm1 ⟨hs.i0, hs.n⟩ ha.1 ha.2 hφ hb

def Src.sec (s : Src) (nm : ByteArray) (st : Int) : Sec := ⟨nm, 2 + s.val 9, 5000 + 5000 * s.next.val 7, s.next.next.val 21 - 10, st⟩

theorem section_spec (w : World) (b : Nat) (s : Src) (nm : ByteArray) (st : Int) (hs : s.Ok) (ha : SrcAt w b s)
    (hφ : (many [own b 122 s.cells]).φ w) (hb : ∀ k, (many [own b 122 s.cells]).fp k → k < w.heap.size) :
    Calls Try.prog 72 #[.pointer (some ⟨b, 0, none⟩), .string nm, .int .i64 st] w (Mut (many [own b 122 s.cells]) (fun _ : Unit => .agg (s.sec nm st).cells.toArray) (fun _ => True) (fun _ => many [own b 122 s.next.next.next.cells]) w) := by
  have h1 := s.val_range (m := 9) (by omega)
  have h2 := s.next.val_range (m := 7) (by omega)
  have h3 := s.next.next.val_range (m := 21) (by omega)
  refine calls_cw (args := [_, _, _]) Try.func72 rfl (Mem.start_many _ hφ hb) rfl ?_
  refine cw_seq fun K1 hK1 => ?_
  refine cw_region ?_
  refine ow_cons (st_alloc rfl (k := fun b6 => ?_))
  refine ow_nil (hK1 _ _ ?_); clear hK1
  refine cw_seq fun K2 hK2 => ?_
  refine cw_region ?_
  refine ow_ev ev_move ?_
  refine ow_ev ev_move ?_
  refine ow_cons (st_callM (cs := [own b 122 (s).cells]) (fun w hm hφ hb => next_spec' w b (s) 9 (by omega) (by omega) hs (ha.mv hm (by repeat (first | exact Has.head | apply Has.tail))) hφ hb) (k := fun _ _ => ?_))
  refine ow_ev ev_add ?_
  refine ow_ev ev_move ?_
  refine ow_cons (st_callM (cs := [own b 122 (s.next).cells]) (fun w hm hφ hb => next_spec' w b (s.next) 7 (by omega) (by omega) hs.next (ha.next.mv hm (by repeat (first | exact Has.head | apply Has.tail))) hφ hb) (k := fun _ _ => ?_))
  refine ow_ev ev_mul ?_
  refine ow_ev ev_add ?_
  refine ow_ev ev_move ?_
  refine ow_cons (st_callM (cs := [own b 122 (s.next.next).cells]) (fun w hm hφ hb => next_spec' w b (s.next.next) 21 (by omega) (by omega) hs.next.next (ha.next.next.mv hm (by repeat (first | exact Has.head | apply Has.tail))) hφ hb) (k := fun _ _ => ?_))
  refine ow_ev ev_sub ?_
  refine ow_ev ev_move ?_
  refine ow_ev (ev_build (s.sec nm st).cells) ?_
  refine ow_cons (st_store_all (vs := (s.sec nm st).cells) (k := ?_))
  refine ow_nil (hK2 _ _ ?_); clear hK2
  refine cw_ret (kw_retc1 (fun w hm => mut_of (cs := [own b 122 s.cells]) () hm trivial rfl))

theorem from_spec (w : World) (a : Option Addr) (cap : Nat) (zs : List Int) : Calls Try.prog 45 #[.slice a zs.length cap] w (Mut (many []) (fun b : Nat => .pointer (some ⟨b, 0, none⟩)) (fun _ => True) (fun b => many [own b 122 (⟨a, cap, zs, 0⟩ : Src).cells]) w) := by
  have hφ : (many []).φ w := ⟨(fun c hc => by cases hc), List.Pairwise.nil⟩
  have hb : ∀ k, (many []).fp k → k < w.heap.size := fun k ⟨c, hc, _⟩ => by cases hc
  refine calls_cw (args := [_]) Try.func45 rfl (Mem.start_many [] hφ hb) rfl ?_
  refine cw_seq fun K1 hK1 => ?_
  refine cw_region ?_
  refine ow_ev ev_assign ?_
  refine ow_nil (hK1 _ _ ?_); clear hK1
  refine cw_seq fun K2 hK2 => ?_
  refine cw_region ?_
  refine ow_ev ev_move ?_
  refine ow_ev (ev_build [.slice a zs.length cap, .int .i64 0]) ?_
  refine ow_cons (st_box (k := fun b5 => ?_))
  refine ow_ev ev_assign ?_
  refine ow_nil (hK2 _ _ ?_); clear hK2
  refine cw_ret (kw_ret1 rfl rfl (fun w hm => mut_of (cs := []) b5 hm trivial rfl))

theorem point_spec (w : World) (bb : Nat) (x0 x2 x3 x4 x5 x6 : Value) (a : Option Addr) (m cap : Nat) (ps : List Value) (hm : m ≤ 1000000)
    (hφ : (many [own bb 83 [x0, .slice a m cap, x2, x3, x4, x5, x6], row 9 1 a m cap ps]).φ w) (hb : ∀ k, (many [own bb 83 [x0, .slice a m cap, x2, x3, x4, x5, x6], row 9 1 a m cap ps]).fp k → k < w.heap.size) :
    Calls Try.prog 92 #[.pointer (some ⟨bb, 0, none⟩)] w (Mut (many [own bb 83 [x0, .slice a m cap, x2, x3, x4, x5, x6], row 9 1 a m cap ps]) (fun _ : Option Addr × Nat => .int .i64 m) (fun _ => True)
      (fun r => many [own bb 83 [x0, .slice r.1 (m + 1) r.2, x2, x3, x4, x5, x6], row 9 1 r.1 (m + 1) r.2 (ps ++ [.string (bs ([80] ++ [UInt8.ofNat (48 + (m : Int).toNat % 10)]))])]) w) := by
  refine calls_cw (args := [_]) Try.func92 rfl (Mem.start_many _ hφ hb) rfl ?_
  refine cw_seq fun K1 hK1 => ?_
  refine cw_region ?_
  refine ow_ev ev_assign ?_
  refine ow_nil (hK1 _ _ ?_); clear hK1
  refine cw_seq fun K2 hK2 => ?_
  refine cw_region_z [own bb 83 [x0, .slice a m cap, x2, x3, x4, x5, x6], oldBut w (many [own bb 83 [x0, .slice a m cap, x2, x3, x4, x5, x6], row 9 1 a m cap ps]).fp] 18 ?_
  refine az_ev 0 rfl ev_move ?_
  refine az_ev 1 rfl ev_move ?_
  refine az_ev 2 rfl ev_nilcheck ?_
  refine az_ev 3 rfl (ev_field_addr 0) ?_
  refine az_ev 4 rfl (ev_field_addr 1) ?_
  refine az_ev 5 rfl ev_load_own ?_
  refine az_ev 6 rfl ev_move ?_
  refine az_ev 7 rfl ev_nilcheck ?_
  refine az_ev 8 rfl (ev_field_addr 0) ?_
  refine az_ev 9 rfl (ev_field_addr 1) ?_
  refine az_ev 10 rfl ev_load_own ?_
  refine az_ev 11 rfl ev_len ?_
  refine az_one 12 rfl (st_callv (fun w hm => named_spec w [80] m (by decide) (by omega)) ⟨fun w hm => hm.sub (by repeat (first | exact List.Sublist.refl _ | apply List.Sublist.cons_cons | apply List.Sublist.cons)), ?_⟩)
  refine az_one 13 rfl (st_buildSlice 9 [.string (bs ([80] ++ [UInt8.ofNat (48 + (m : Int).toNat % 10)]))] (k := fun b16 => ⟨fun w hm => hm.sub (by repeat (first | exact List.Sublist.refl _ | apply List.Sublist.cons_cons | apply List.Sublist.cons)), ?_⟩))
  refine az_one 14 rfl (st_append_own 16 (k := fun a' cap' => ⟨fun w hm => hm.sub (by repeat (first | exact List.Sublist.refl _ | apply List.Sublist.cons_cons | apply List.Sublist.cons)), ?_⟩))
  refine az_ev 15 rfl ev_nilcheck ?_
  refine az_ev 16 rfl (ev_field_addr 0) ?_
  refine az_ev 17 rfl (ev_field_addr 1) ?_
  refine az_last rfl (st_store_own (o := 0 + 0 + 1) (l' := [x0, .slice a' (m + 1) cap', x2, x3, x4, x5, x6]) (k := ?_))
  refine az_done (hK2 _ _ ?_); clear hK2
  refine cw_seq fun K3 hK3 => ?_
  refine cw_region ?_
  refine ow_ev ev_move ?_
  refine ow_ev ev_nilcheck ?_
  refine ow_ev (ev_field_addr 0) ?_
  refine ow_ev (ev_field_addr 1) ?_
  refine ow_ev ev_load_own ?_
  refine ow_ev ev_len ?_
  refine ow_ev ev_sub ?_
  refine ow_ev ev_assign ?_
  refine ow_nil (hK3 _ _ ?_); clear hK3
  refine cw_ret (kw_ret1 rfl rfl (fun w hm => mut_of (cs := [own bb 83 [x0, .slice a m cap, x2, x3, x4, x5, x6], row 9 1 a m cap ps]) (a', cap') hm trivial (by rw [show ((m + 1 : Nat) : Int) - 1 = m by omega])))

theorem link_spec (w : World) (bb : Nat) (x0 x1 x2 x4 x5 x6 : Value) (a : Option Addr) (m cap : Nat) (ks : List Value) (p q pt pos : Int) (hm : m ≤ 1000000)
    (hφ : (many [own bb 83 [x0, x1, x2, .slice a m cap, x4, x5, x6], row 91 6 a m cap ks]).φ w) (hb : ∀ k, (many [own bb 83 [x0, x1, x2, .slice a m cap, x4, x5, x6], row 91 6 a m cap ks]).fp k → k < w.heap.size) :
    Calls Try.prog 74 #[.pointer (some ⟨bb, 0, none⟩), .int .i64 p, .int .i64 q, .int .i64 pt, .int .i64 pos] w (Mut (many [own bb 83 [x0, x1, x2, .slice a m cap, x4, x5, x6], row 91 6 a m cap ks]) (fun _ : Option Addr × Nat => .tuple #[]) (fun _ => True)
      (fun r => many [own bb 83 [x0, x1, x2, .slice r.1 (m + 1) r.2, x4, x5, x6], row 91 6 r.1 (m + 1) r.2 (ks ++ (⟨p, 1, q, 0, pt, pos⟩ : Lnk).cells)]) w) := by
  refine calls_cw (args := [_, _, _, _, _]) Try.func74 rfl (Mem.start_many _ hφ hb) rfl ?_
  refine cw_region ?_
  refine ow_ev ev_move ?_
  refine ow_ev ev_move ?_
  refine ow_ev ev_nilcheck ?_
  refine ow_ev (ev_field_addr 0) ?_
  refine ow_ev (ev_field_addr 3) ?_
  refine ow_ev ev_load_own ?_
  refine ow_ev ev_move ?_
  refine ow_ev ev_move ?_
  refine ow_ev ev_move ?_
  refine ow_ev ev_move ?_
  refine ow_ev (ev_build (⟨p, 1, q, 0, pt, pos⟩ : Lnk).cells) ?_
  refine ow_cons (st_buildSlice 91 (⟨p, 1, q, 0, pt, pos⟩ : Lnk).cells (k := fun b21 => ?_))
  refine ow_cons (st_append_own 48 (k := fun a' cap' => ?_))
  refine ow_ev ev_nilcheck ?_
  refine ow_ev (ev_field_addr 0) ?_
  refine ow_ev (ev_field_addr 3) ?_
  refine ow_cons (st_store_own (o := 0 + 0 + 3) (l' := [x0, x1, x2, .slice a' (m + 1) cap', x4, x5, x6]) (k := ?_))
  refine ow_nil (kw_end0 rfl (fun w hm => mut_of (cs := [own bb 83 [x0, x1, x2, .slice a m cap, x4, x5, x6], row 91 6 a m cap ks]) (a', cap') hm trivial rfl))

def fanP (tr : List Int) : Nat := if 1 < tr.length then 1 else 0
def fanN (m : Nat) (tr : List Int) : List ByteArray := if 1 < tr.length then [bs ([80] ++ [UInt8.ofNat (48 + (m : Int).toNat % 10)])] else []
def fanQ (m : Nat) (tr : List Int) : Int := if 1 < tr.length then m else -1
def fanK (x p : Int) (east : Bool) (t : Int × Nat) : Lnk := if east then ⟨x, 1, t.1, 0, p, t.2⟩ else ⟨t.1, 1, x, 0, p, t.2⟩
def fanL (x p : Int) (east : Bool) (tr : List Int) : List Lnk := tr.zipIdx.map (fanK x p east)
theorem fanL_len (x p : Int) (east : Bool) (tr : List Int) : (fanL x p east tr).length = tr.length := by simp [fanL]
theorem fanL_step {x p : Int} {east : Bool} {tr : List Int} {i : Nat} (h : i < tr.length) : (fanL x p east (tr.take (i + 1))).flatMap Lnk.cells = (fanL x p east (tr.take i)).flatMap Lnk.cells ++ (fanK x p east (tr.getD i 0, i)).cells := by
  rw [List.take_add_one, List.getElem?_eq_getElem h]
  unfold fanL
  rw [List.zipIdx_append, List.map_append, List.flatMap_append, List.length_take, Nat.min_eq_left (Nat.le_of_lt h)]
  simp [h]
theorem ints_get {tr : List Int} {i : Nat} (h : i < tr.length) : (tr.map (Value.int .i64))[i]? = some (.int .i64 (tr.getD i 0)) := by simp [h]

theorem fan_spec (w : World) (bb : Nat) (x0 x2 x4 x5 x6 : Value) (a a4 : Option Addr) (m cap m4 c4 : Nat) (ps ks : List Value) (x : Int) (ta : Option Addr) (tc : Nat) (tr : List Int) (east : Bool) (hm : m ≤ 1000) (hm4 : m4 ≤ 1000) (htr : tr.length ≤ 1000)
    (hsl : Sl 0 w.heap.size w ta (tr.map (.int .i64))) (hn : tr ≠ [] → ¬ (many [own bb 83 [x0, .slice a m cap, x2, .slice a4 m4 c4, x4, x5, x6], row 9 1 a m cap ps, row 91 6 a4 m4 c4 ks]).fp (sb ta))
    (hφ : (many [own bb 83 [x0, .slice a m cap, x2, .slice a4 m4 c4, x4, x5, x6], row 9 1 a m cap ps, row 91 6 a4 m4 c4 ks]).φ w) (hb : ∀ k, (many [own bb 83 [x0, .slice a m cap, x2, .slice a4 m4 c4, x4, x5, x6], row 9 1 a m cap ps, row 91 6 a4 m4 c4 ks]).fp k → k < w.heap.size) :
    Calls Try.prog 75 #[.pointer (some ⟨bb, 0, none⟩), .int .i64 x, .slice ta tr.length tc, .bool east] w (Mut (many [own bb 83 [x0, .slice a m cap, x2, .slice a4 m4 c4, x4, x5, x6], row 9 1 a m cap ps, row 91 6 a4 m4 c4 ks]) (fun _ : (Option Addr × Nat) × (Option Addr × Nat) => .tuple #[]) (fun _ => True)
      (fun r => many [own bb 83 [x0, .slice r.1.1 (m + fanP tr) r.1.2, x2, .slice r.2.1 (m4 + tr.length) r.2.2, x4, x5, x6], row 9 1 r.1.1 (m + fanP tr) r.1.2 (ps ++ strCells (fanN m tr)), row 91 6 r.2.1 (m4 + tr.length) r.2.2 (ks ++ (fanL x (fanQ m tr) east tr).flatMap Lnk.cells)]) w) := by
  refine calls_cw (args := [_, _, _, _]) Try.func75 rfl (Mem.start_many _ hφ hb) rfl ?_
  refine cw_seq fun K1 hK1 => ?_
  refine cw_region ?_
  refine ow_ev ev_assign ?_
  refine ow_nil (hK1 _ _ ?_); clear hK1
  refine cw_cut (γ := Int × Nat × Option Addr × Nat × List Value) (env := fun g => [(0, .v (.pointer (some ⟨bb, 0, none⟩))), (1, .v (.int .i64 x)), (2, .v (.slice ta tr.length tc)), (3, .v (.bool east)), (8, .v (.int .i64 g.1))]) (mem := fun g => [own bb 83 [x0, .slice g.2.2.1 g.2.1 g.2.2.2.1, x2, .slice a4 m4 c4, x4, x5, x6], row 9 1 g.2.2.1 g.2.1 g.2.2.2.1 g.2.2.2.2, row 91 6 a4 m4 c4 ks, oldBut w (many [own bb 83 [x0, .slice a m cap, x2, .slice a4 m4 c4, x4, x5, x6], row 9 1 a m cap ps, row 91 6 a4 m4 c4 ks]).fp]) (R := fun g => g.1 = fanQ m tr ∧ g.2.1 = m + fanP tr ∧ g.2.2.2.2 = ps ++ strCells (fanN m tr)) ?_ ?_
  · intro KJ2 hJ2
    refine cw_seq fun K3 hK3 => ?_
    refine cw_region ?_
    refine ow_ev ev_move ?_
    refine ow_ev ev_len ?_
    refine ow_ev ev_gtr ?_
    refine ow_nil (hK3 _ _ ?_); clear hK3
    refine cw_if rfl (fun hc1 => ?_) (fun hc1 => ?_)  -- t12
    ·
      refine cw_region ?_
      refine ow_ev ev_move ?_
      refine ow_cons (st_callM (cs := [own bb 83 [x0, .slice a m cap, x2, .slice a4 m4 c4, x4, x5, x6], row 9 1 a m cap ps]) (fun w hm hφ hb => point_spec w bb x0 x2 (.slice a4 m4 c4) x4 x5 x6 a m cap ps (by omega) hφ hb) (k := fun r _ => ?_))
      refine ow_ev ev_assign ?_
      refine ow_nil (hJ2 ((_, _, _, _, _)) _ _ (⟨by rw [fanQ, if_pos (by omega)], by rw [fanP, if_pos (by omega)], by rw [fanN, if_pos (by omega)]; rfl⟩) ⟨rfl, rfl, rfl, rfl, rfl, trivial⟩ (fun _ h => h))
    ·
      refine cw_skip (hJ2 ((_, _, _, _, _)) _ _ (⟨by rw [fanQ, if_neg (by omega)], by rw [fanP, if_neg (by omega)]; rfl, by rw [fanN, if_neg (by omega)]; exact (List.append_nil _).symm⟩) ⟨rfl, rfl, rfl, rfl, rfl, trivial⟩ (fun _ h => h))
  · intro g hR
    obtain ⟨pq, mp, ap, cp, ps'⟩ := g
    dsimp only at hR ⊢
    obtain ⟨hpq, hmp, hps⟩ := hR
    refine cw_seq fun K4 hK4 => ?_
    refine cw_region ?_
    refine ow_ev ev_move ?_
    refine ow_ev ev_len ?_
    refine ow_ev ev_move ?_
    refine ow_nil (hK4 _ _ ?_); clear hK4
    refine cw_block ?_
    refine cw_loop (γ := Nat × Nat × Option Addr × Nat × List Value) (env := fun g => [(0, .v (.pointer (some ⟨bb, 0, none⟩))), (1, .v (.int .i64 x)), (2, .v (.slice ta tr.length tc)), (3, .v (.bool east)), (8, .v (.int .i64 pq)), (16, .v (.int .i64 tr.length)), (17, .v (.int .i64 g.1))]) (mem := fun g => [own bb 83 [x0, .slice ap mp cp, x2, .slice g.2.2.1 g.2.1 g.2.2.2.1, x4, x5, x6], row 9 1 ap mp cp ps', row 91 6 g.2.2.1 g.2.1 g.2.2.2.1 g.2.2.2.2, oldBut w (many [own bb 83 [x0, .slice a m cap, x2, .slice a4 m4 c4, x4, x5, x6], row 9 1 a m cap ps, row 91 6 a4 m4 c4 ks]).fp]) (R := fun g => g.1 ≤ tr.length ∧ g.2.1 = m4 + g.1 ∧ g.2.2.2.2 = ks ++ (fanL x pq east (tr.take g.1)).flatMap Lnk.cells) (μ := fun g => tr.length - g.1) ((0, m4, a4, c4, ks)) (⟨Nat.zero_le _, rfl, (List.append_nil _).symm⟩) ⟨rfl, rfl, rfl, rfl, rfl, rfl, rfl, trivial⟩ (fun _ h => h) ?_
    intro g hR1 KL1 hL1
    obtain ⟨i, m', a', c', ks'⟩ := g
    dsimp only at hR1 ⊢
    obtain ⟨hi, hm', hks⟩ := hR1
    refine cw_seq fun K5 hK5 => ?_
    refine cw_region ?_
    refine ow_ev ev_lss ?_
    refine ow_nil (hK5 _ _ ?_); clear hK5
    refine cw_seq fun K6 hK6 => ?_
    refine cw_if rfl (fun hc2 => ?_) (fun hc2 => ?_)  -- t18
    ·
      refine cw_skip (hK6 _ _ ?_); clear hK6
      refine cw_seq fun K7 hK7 => ?_
      refine cw_block ?_
      refine cw_seq fun K8 hK8 => ?_
      refine cw_region ?_
      refine ow_ev ev_move ?_
      refine ow_ev ev_assign ?_
      refine ow_nil (hK8 _ _ ?_); clear hK8
      refine cw_seq fun K9 hK9 => ?_
      refine cw_region ?_
      refine ow_ev ev_move ?_
      refine ow_nil (hK9 _ _ ?_); clear hK9
      refine cw_cond rfl (fun hc3 => ?_) (fun hc3 => ?_)  -- t20
      ·
        refine cw_region ?_
        refine ow_ev ev_move ?_
        refine ow_ev ev_move ?_
        refine ow_ev ev_move ?_
        refine ow_ev ev_move ?_
        refine ow_ev (ev_index_addr' (ad := ta) 1 (fun _ => hsl.addr (by rw [List.length_map]; omega))) ?_
        refine ow_ev (ev_load_at (v := .int .i64 (tr.getD i 0)) (cell_oldBut (fp := (many [own bb 83 [x0, .slice a m cap, x2, .slice a4 m4 c4, x4, x5, x6], row 9 1 a m cap ps, row 91 6 a4 m4 c4 ks]).fp) (j := (i : Int).toNat * 1) hsl (by rw [Nat.mul_one]; exact ints_get (by omega)) (Nat.le_refl _) (hn (by rintro rfl; simp at hc2; omega)) (by repeat (first | exact Has.head | apply Has.tail)))) ?_
        refine ow_ev ev_move ?_
        refine ow_ev ev_move ?_
        refine ow_cons (st_callM (cs := [own bb 83 [x0, .slice ap mp cp, x2, .slice a' m' c', x4, x5, x6], row 91 6 a' m' c' ks']) (fun w hm hφ hb => link_spec w bb x0 (.slice ap mp cp) x2 x4 x5 x6 a' m' c' ks' (x) (tr.getD i 0) pq (i : Int) (by omega) hφ hb) (k := fun r _ => ?_))
        refine ow_nil (hK7 _ _ ?_); clear hK7
        refine cw_region ?_
        refine ow_ev ev_add ?_
        refine ow_ev ev_move ?_
        have e : (⟨x, 1, tr.getD i 0, 0, pq, (i : Int)⟩ : Lnk) = fanK x pq east (tr.getD i 0, i) := by rw [fanK, hc3]; rfl
        refine ow_nil (hL1 ((i + 1, m' + 1, r.1, r.2, ks' ++ (fanK x pq east (tr.getD i 0, i)).cells)) _ _ (⟨by show i + 1 ≤ _; omega, by show m' + 1 = m4 + (i + 1); omega, by show ks' ++ _ = _; rw [fanL_step (by omega), hks, List.append_assoc]⟩) (by show _ - (i + 1) < _; omega) ⟨rfl, rfl, rfl, rfl, rfl, rfl, rfl, trivial⟩ (fun _ h => by dsimp only; rw [← e]; exact h.reord))
      ·
        refine cw_region ?_
        refine ow_ev ev_move ?_
        refine ow_ev ev_move ?_
        refine ow_ev ev_move ?_
        refine ow_ev (ev_index_addr' (ad := ta) 1 (fun _ => hsl.addr (by rw [List.length_map]; omega))) ?_
        refine ow_ev (ev_load_at (v := .int .i64 (tr.getD i 0)) (cell_oldBut (fp := (many [own bb 83 [x0, .slice a m cap, x2, .slice a4 m4 c4, x4, x5, x6], row 9 1 a m cap ps, row 91 6 a4 m4 c4 ks]).fp) (j := (i : Int).toNat * 1) hsl (by rw [Nat.mul_one]; exact ints_get (by omega)) (Nat.le_refl _) (hn (by rintro rfl; simp at hc2; omega)) (by repeat (first | exact Has.head | apply Has.tail)))) ?_
        refine ow_ev ev_move ?_
        refine ow_ev ev_move ?_
        refine ow_ev ev_move ?_
        refine ow_cons (st_callM (cs := [own bb 83 [x0, .slice ap mp cp, x2, .slice a' m' c', x4, x5, x6], row 91 6 a' m' c' ks']) (fun w hm hφ hb => link_spec w bb x0 (.slice ap mp cp) x2 x4 x5 x6 a' m' c' ks' (tr.getD i 0) (x) pq (i : Int) (by omega) hφ hb) (k := fun r _ => ?_))
        refine ow_nil (hK7 _ _ ?_); clear hK7
        refine cw_region ?_
        refine ow_ev ev_add ?_
        refine ow_ev ev_move ?_
        have e : (⟨tr.getD i 0, 1, x, 0, pq, (i : Int)⟩ : Lnk) = fanK x pq east (tr.getD i 0, i) := by rw [fanK, hc3]; rfl
        refine ow_nil (hL1 ((i + 1, m' + 1, r.1, r.2, ks' ++ (fanK x pq east (tr.getD i 0, i)).cells)) _ _ (⟨by show i + 1 ≤ _; omega, by show m' + 1 = m4 + (i + 1); omega, by show ks' ++ _ = _; rw [fanL_step (by omega), hks, List.append_assoc]⟩) (by show _ - (i + 1) < _; omega) ⟨rfl, rfl, rfl, rfl, rfl, rfl, rfl, trivial⟩ (fun _ h => by dsimp only; rw [← e]; exact h.reord))
    ·
      refine cw_exit (kw_end0 rfl (fun w hm => by have e : i = tr.length := (by omega); subst e; rw [List.take_length] at hks; subst hm' hks hpq hmp hps; exact mut_of (cs := [own bb 83 [x0, .slice a m cap, x2, .slice a4 m4 c4, x4, x5, x6], row 9 1 a m cap ps, row 91 6 a4 m4 c4 ks]) ((ap, cp), (a', c')) hm trivial rfl))

end Go.Proofs.Ytnihhidbiepnhaa

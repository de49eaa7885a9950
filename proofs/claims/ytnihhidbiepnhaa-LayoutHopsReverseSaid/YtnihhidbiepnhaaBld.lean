/- Contracts of keep's builder of layouts: the small functions. -/
import Derived.Test.YtnihhidbiepnhaaEng10
import Derived.Test.YtnihhidbiepnhaaKeep1
import Derived.Test.YtnihhidbiepnhaaLinks1
namespace Go.Proofs.Ytnihhidbiepnhaa
open Go.Eng Go.RowKit
set_option maxRecDepth 10000

/-- A source of numbers: all numbers zs (its slice has the header a, cap), and how many are used. -/
structure Src where
  a : Option Addr
  cap : Nat
  zs : List Int
  i : Int
def Src.cells (s : Src) : List Value := [.slice s.a s.zs.length s.cap, .int .i64 s.i]
def Src.val (s : Src) (m : Int) : Int := if (s.zs.length : Int) ≤ s.i then 0 else pickI (s.zs.getD s.i.toNat 0) m
def Src.next (s : Src) : Src := if (s.zs.length : Int) ≤ s.i then s else { s with i := s.i + 1 }
theorem Src.val_range (s : Src) {m : Int} (h : 0 < m) : 0 ≤ s.val m ∧ s.val m < m := by
  unfold Src.val
  split
  · omega
  · exact pickI_range _ h

theorem src_get {zs : List Int} {i : Int} (h0 : 0 ≤ i) (h1 : i < zs.length) : (zs.map (Value.int .i64))[(i + 1 - 1).toNat * 1]? = some (.int .i64 (zs.getD i.toNat 0)) := by
  rw [Nat.mul_one, show (i + 1 - 1).toNat = i.toNat by omega]
  have : i.toNat < zs.length := by omega
  simp [this]

theorem next_spec (w : World) (b : Nat) (s : Src) (m : Int) (hm0 : 0 < m) (hm1 : m ≤ 4611686018427387904) (hi : 0 ≤ s.i ∧ s.zs.length ≤ 9223372036854775807)
    (hsl : Sl 0 w.heap.size w s.a (s.zs.map (.int .i64))) (hbk : s.zs ≠ [] → sb s.a ≠ b)
    (hφ : (many [own b 122 s.cells]).φ w) (hb : ∀ k, (many [own b 122 s.cells]).fp k → k < w.heap.size) :
    Calls Try.prog 50 #[.pointer (some ⟨b, 0, none⟩), .int .i64 m] w (Mut (many [own b 122 s.cells]) (fun _ : Unit => .int .i64 (s.val m)) (fun _ => True) (fun _ => many [own b 122 s.next.cells]) w) := by
  refine calls_cw (args := [_, _]) Try.func50 rfl (Mem.start_many _ hφ hb) rfl ?_
  refine cw_seq fun K1 hK1 => ?_
  refine cw_region ?_
  refine ow_ev ev_assign ?_
  refine ow_nil (hK1 _ _ ?_); clear hK1
  refine cw_seq fun K2 hK2 => ?_
  refine cw_seq fun K3 hK3 => ?_
  refine cw_region_any [own b 122 s.cells, oldBut w (many [own b 122 s.cells]).fp] (by repeat (first | exact List.Sublist.refl _ | apply List.Sublist.cons_cons | apply List.Sublist.cons)) ?_
  refine aw_ev 0 rfl ev_move ?_
  refine aw_ev 1 rfl ev_nilcheck ?_
  refine aw_ev 2 rfl (ev_field_addr 1) ?_
  refine aw_ev 3 rfl ev_load_own ?_
  refine aw_ev 4 rfl ev_move ?_
  refine aw_ev 5 rfl ev_nilcheck ?_
  refine aw_ev 6 rfl (ev_field_addr 0) ?_
  refine aw_ev 7 rfl ev_load_own ?_
  refine aw_ev 8 rfl ev_len ?_
  refine aw_ev 9 rfl ev_geq ?_
  refine aw_done (hK3 _ _ ?_); clear hK3
  refine cw_if rfl (fun hc1 => ?_) (fun hc1 => ?_)  -- t14
  ·
    refine cw_seq fun K4 hK4 => ?_
    refine cw_region ?_
    refine ow_ev ev_assign ?_
    refine ow_nil (hK4 _ _ ?_); clear hK4
    refine cw_ret (kw_ret1 rfl rfl (fun w hm => mut_of (cs := [own b 122 s.cells]) () hm trivial (by rw [Src.val, if_pos hc1]) (hsel := by rw [Src.next, if_pos hc1]; repeat (first | exact SelL.nil | (apply SelL.cons; · (repeat (first | exact Sel.head | apply Sel.tail)))))))
  ·
    refine cw_skip (hK2 _ _ ?_); clear hK2
    refine cw_seq fun K5 hK5 => ?_
    refine cw_region ?_
    refine ow_ev ev_move ?_
    refine ow_ev ev_nilcheck ?_
    refine ow_ev (ev_field_addr 1) ?_
    refine ow_ev ev_load_own ?_
    refine ow_ev ev_add ?_
    refine ow_ev ev_nilcheck ?_
    refine ow_ev (ev_field_addr 1) ?_
    refine ow_cons (st_store_own (k := ?_))
    refine ow_nil (hK5 _ _ ?_); clear hK5
    refine cw_seq fun K6 hK6 => ?_
    refine cw_region_any [own b 122 (setAll s.cells 1 [.int .i64 (s.i + 1)]), oldBut w (many [own b 122 s.cells]).fp] (by repeat (first | exact List.Sublist.refl _ | apply List.Sublist.cons_cons | apply List.Sublist.cons)) ?_
    refine aw_ev 0 rfl ev_move ?_
    refine aw_ev 1 rfl ev_nilcheck ?_
    refine aw_ev 2 rfl (ev_field_addr 0) ?_
    refine aw_ev 3 rfl ev_load_own ?_
    refine aw_ev 4 rfl ev_move ?_
    refine aw_ev 5 rfl ev_nilcheck ?_
    refine aw_ev 6 rfl (ev_field_addr 1) ?_
    refine aw_ev 7 rfl ev_load_own ?_
    refine aw_ev 8 rfl ev_sub ?_
    refine aw_ev 9 rfl (ev_index_addr' (ad := s.a) 1 (fun _ => hsl.addr (by rw [List.length_map]; omega))) ?_
    refine aw_ev 10 rfl (ev_load_at (v := .int .i64 (s.zs.getD s.i.toNat 0)) (cell_oldBut (fp := (many [own b 122 s.cells]).fp) (j := (s.i + 1 - 1).toNat * 1) hsl (src_get (by omega) (by omega)) (Nat.le_refl _) (by rintro ⟨c, hc, hk⟩; simp at hc; subst hc; exact hbk (by intro h0; rw [h0] at hc1; simp at hc1; omega) hk) (by repeat (first | exact Has.head | apply Has.tail)))) ?_
    refine aw_ev 11 rfl ev_move ?_
    refine aw_one 12 rfl (st_callv (fun w hm => pick_spec w _ m hm0 hm1) ⟨fun w hm => hm.sub (by repeat (first | exact List.Sublist.refl _ | apply List.Sublist.cons_cons | apply List.Sublist.cons)), ?_⟩)
    refine aw_ev 13 rfl ev_assign ?_
    refine aw_done (hK6 _ _ ?_); clear hK6
    refine cw_ret (kw_ret1 rfl rfl (fun w hm => mut_of (cs := [own b 122 s.cells]) () hm trivial (by rw [Src.val, if_neg hc1]) (hsel := by rw [Src.next, if_neg hc1]; repeat (first | exact SelL.nil | (apply SelL.cons; · (repeat (first | exact Sel.head | apply Sel.tail)))))))

theorem named_spec (w : World) (f : List UInt8) (k : Int) (hf : f.length ≤ 100) (hk : 0 ≤ k) : Calls Try.prog 71 #[.string (bs f), .int .i64 k] w (Ret w (.string (bs (f ++ [UInt8.ofNat (48 + k.toNat % 10)])))) := by
  have hr : k.tmod 10 = ((k.toNat % 10 : Nat) : Int) := by rw [Int.tmod_eq_emod_of_nonneg hk]; omega
  refine calls_cw (args := [_, _]) Try.func71 rfl (Mem.start w) rfl ?_
  refine cw_seq fun K1 hK1 => ?_
  refine cw_region ?_
  refine ow_ev ev_assign ?_
  refine ow_nil (hK1 _ _ ?_); clear hK1
  refine cw_seq fun K2 hK2 => ?_
  refine cw_region ?_
  refine ow_ev ev_move ?_
  refine ow_ev ev_move ?_
  refine ow_ev ev_rem ?_
  refine ow_ev ev_move ?_
  refine ow_ev ev_rem ?_
  refine ow_ev (ev_add (hr := fun _ => by unfold I64; rw [hr]; omega)) ?_
  refine ow_ev (ev_slice_string (hb := fun _ => ⟨by rw [hr]; omega, by omega, by rw [hr]; show _ ≤ (10 : Int); omega⟩)) ?_
  refine ow_ev (ev_str_add (hl := fun _ => by rw [hr, dig_nat _ (Nat.mod_lt _ (by omega)), bs_size, bs_size]; simp; omega)) ?_
  refine ow_ev ev_assign ?_
  refine ow_nil (hK2 _ _ ?_); clear hK2
  refine cw_ret (kw_ret1 rfl rfl (fun w hm => ret_of hm (by rw [hr, dig_nat _ (Nat.mod_lt _ (by omega)), bs_append])))

theorem add_spec (w : World) (bb : Nat) (cs : List Value) (a : Option Addr) (m cap : Nat) (xs : List Value) (x : Sec) (hcs : cs[2]? = some (.slice a m cap)) (hm : m ≤ 1000000)
    (hφ : (many [own bb 83 cs, row 31 5 a m cap xs]).φ w) (hb : ∀ k, (many [own bb 83 cs, row 31 5 a m cap xs]).fp k → k < w.heap.size) :
    Calls Try.prog 73 #[.pointer (some ⟨bb, 0, none⟩), .agg x.cells.toArray] w (Mut (many [own bb 83 cs, row 31 5 a m cap xs])
      (fun _ : Option Addr × Nat => .int .i64 m) (fun _ => True) (fun r => many [own bb 83 (cs.set 2 (.slice r.1 (m + 1) r.2)), row 31 5 r.1 (m + 1) r.2 (xs ++ x.cells)]) w) := by
  refine calls_cw (args := [_, _]) Try.func73 rfl (Mem.start_many _ hφ hb) rfl ?_
  refine cw_seq fun K1 hK1 => ?_
  refine cw_region ?_
  refine ow_cons (st_box (k := fun b3 => ?_))
  refine ow_ev ev_assign ?_
  refine ow_nil (hK1 _ _ ?_); clear hK1
  refine cw_seq fun K2 hK2 => ?_
  refine cw_region_z [own b3 31 x.cells, own bb 83 cs, oldBut w (many [own bb 83 cs, row 31 5 a m cap xs]).fp] 12 ?_
  refine az_ev 0 rfl ev_move ?_
  refine az_ev 1 rfl ev_move ?_
  refine az_ev 2 rfl ev_nilcheck ?_
  refine az_ev 3 rfl (ev_field_addr 0) ?_
  refine az_ev 4 rfl (ev_field_addr 2) ?_
  refine az_ev 5 rfl (ev_load_own (o := 0 + 0 + 2) (v := .slice a m cap) (hv := hcs)) ?_
  refine az_ev 6 rfl ev_load_all ?_
  refine az_one 7 rfl (st_buildSlice 31 x.cells (k := fun b12 => ⟨fun w hm => hm.sub (by repeat (first | exact List.Sublist.refl _ | apply List.Sublist.cons_cons | apply List.Sublist.cons)), ?_⟩))
  refine az_one 8 rfl (st_append_own 48 (k := fun a' cap' => ⟨fun w hm => hm.sub (by repeat (first | exact List.Sublist.refl _ | apply List.Sublist.cons_cons | apply List.Sublist.cons)), ?_⟩))
  refine az_ev 9 rfl ev_nilcheck ?_
  refine az_ev 10 rfl (ev_field_addr 0) ?_
  refine az_ev 11 rfl (ev_field_addr 2) ?_
  refine az_last rfl (st_store_own (o := 0 + 0 + 2) (l' := cs.set 2 (.slice a' (m + 1) cap')) (hl0 := by have := (List.getElem?_eq_some_iff.1 hcs).1; rw [Nat.ble_eq]; exact this) (k := ?_))
  refine az_done (hK2 _ _ ?_); clear hK2
  refine cw_seq fun K3 hK3 => ?_
  refine cw_region ?_
  refine ow_ev ev_move ?_
  refine ow_ev ev_nilcheck ?_
  refine ow_ev (ev_field_addr 0) ?_
  refine ow_ev (ev_field_addr 2) ?_
  refine ow_ev (ev_load_own (o := 0 + 0 + 2) (v := .slice a' (m + 1) cap') (hv := by have := (List.getElem?_eq_some_iff.1 hcs).1; exact List.getElem?_set_self this)) ?_
  refine ow_ev ev_len ?_
  refine ow_ev ev_sub ?_
  refine ow_ev ev_assign ?_
  refine ow_nil (hK3 _ _ ?_); clear hK3
  refine cw_ret (kw_ret1 rfl rfl (fun w hm => mut_of (cs := [own bb 83 cs, row 31 5 a m cap xs]) (a', cap') hm trivial (by rw [show ((m + 1 : Nat) : Int) - 1 = m by omega])))

end Go.Proofs.Ytnihhidbiepnhaa

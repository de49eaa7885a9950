/- The walk of LayoutLimits. -/
import Derived.Test.YtnihhidbiepnhaaLim1
namespace Go.Proofs.Ytnihhidbiepnhaa
open Go.Eng Go.RowKit
set_option maxRecDepth 10000

theorem sl_row {w0 w : World} {H : List Chunk} {e sz m cap : Nat} {a : Option Addr} {xs : List Value} (hm : Mem w0 H w) (h : Has H (row e sz a m cap xs)) : Sl 0 w.heap.size w a xs := fun j u hu => by
  have hφ := h.φ hm
  have hpos : 0 < m := by
    rcases Nat.eq_zero_or_pos m with h0 | h0
    · have := row_len hφ; rw [h0, Nat.zero_mul] at this
      have : xs = [] := List.length_eq_zero_iff.1 this
      subst this; simp at hu
    · exact h0
  have ha := row_addr hφ hpos
  exact ⟨ha.1, Nat.zero_le _, h.lt hm (k := sb a) ⟨_, ha.1, rfl⟩, row_cell hφ hu⟩

theorem nmL_len (n : Nat) : (nmL n).length = n := by simp [nmL]
theorem scL_len (n : Nat) : (scL n).length = n := by simp [scL]
theorem nmL_succ (n : Nat) : nmL (n + 1) = nmL n ++ [bs (97 :: decL n)] := by simp [nmL, List.range_succ]
theorem scL_succ (n : Nat) : scL (n + 1) = scL n ++ [⟨bs (97 :: decL n), 1, 1000, 0, -1⟩] := by simp [scL, List.range_succ]
theorem most_get {k : Int} (h0 : 0 ≤ k) (h3 : k < 3) : ([.int .i64 24, .int .i64 48, .int .i64 96] : List Value)[0 + k.toNat * 1]? = some (.int .i64 (mostI k)) := by
  have : k = 0 ∨ k = 1 ∨ k = 2 := by omega
  rcases this with rfl | rfl | rfl <;> rfl
theorem decL_len (n : Nat) (h : n < 100) : (decL n).length ≤ 2 := by
  have : ∀ m : Fin 100, (decL (m.val : Int)).length ≤ 2 := by decide +kernel
  exact this ⟨n, h⟩

theorem layN_len (k : Int) (n : Nat) : (layN k n).stations.length ≤ n ∧ (layN k n).points.length ≤ n ∧ (layN k n).sections.length ≤ n := by
  refine ⟨?_, ?_, ?_⟩ <;> simp only [layN] <;> split <;> simp [nmL_len, scL_len]
theorem layN_st {k : Int} (h : k = 0) (n : Nat) : layN k (n + 1) = { layN k n with stations := (layN k n).stations ++ [bs (97 :: decL n)] } := by
  subst h; simp [layN, nmL_succ]
theorem layN_pt {k : Int} (h : k = 1) (n : Nat) : layN k (n + 1) = { layN k n with points := (layN k n).points ++ [bs (97 :: decL n)] } := by
  subst h; simp [layN, nmL_succ]
theorem layN_se {k : Int} (h : k = 2) (n : Nat) : layN k (n + 1) = { layN k n with sections := (layN k n).sections ++ [⟨bs (97 :: decL n), 1, 1000, 0, -1⟩] } := by
  subst h; simp [layN, scL_succ]
theorem layN_0 (k : Int) : layN k 0 = ⟨[], [], [], []⟩ := by simp [layN, nmL, scL]
theorem layF_of {k : Int} {n : Nat} (h : ¬ ((layN k n).sections.length : Int) = 0) : layF k n = layN k n := by
  simp only [layN] at h
  simp only [layF, layN]
  split at h
  · rename_i h2; simp [h2]
  · simp at h
theorem layF_of0 {k : Int} {n : Nat} (hn : 0 < n) (h : ((layN k n).sections.length : Int) = 0) : layF k n = { layN k n with sections := [secX] } := by
  simp only [layN] at h
  simp only [layF, layN]
  split at h
  · rw [scL_len] at h; omega
  · rename_i h2; simp [h2]

theorem lim_bool {n m : Int} : Value.bool ((true && (decide ((if n ≤ m then (0 : Int) else 7) = 0) == decide (n ≤ m))) && (decide ((if n ≤ m then (0 : Int) else 7) = 7) == decide (m < n))) = .bool true := by
  by_cases h : n ≤ m
  · have h2 : ¬ m < n := by omega
    simp [h, h2]
  · have h2 : m < n := by omega
    simp [h, h2]
theorem lim_lit {w0 w : World} {b b7 : Nat} {v : LayV} {l : Lay} (hm : Mem w0 [own b 31 secX.cells, row 9 1 v.a1 l.stations.length v.c1 (strCells l.stations), row 9 1 v.a2 l.points.length v.c2 (strCells l.points), own b7 28 [.slice v.a1 l.stations.length v.c1, .slice v.a2 l.points.length v.c2, .slice (some ⟨b, 0, none⟩) 1 1, .slice v.a4 l.links.length v.c4], old w0] w) :
    Mem w0 [row 9 1 v.a1 l.stations.length v.c1 (strCells l.stations), row 9 1 v.a2 l.points.length v.c2 (strCells l.points), row 31 5 (some ⟨b, 0, none⟩) 1 1 ([secX].flatMap Sec.cells), own b7 28 [.slice v.a1 l.stations.length v.c1, .slice v.a2 l.points.length v.c2, .slice (some ⟨b, 0, none⟩) 1 1, .slice v.a4 l.links.length v.c4], old w0] w := by
  have h := own_row (sz := 5) (m := 1) rfl (by omega) hm
  exact h.perm (.trans (.swap _ _ _) (.cons _ (.swap _ _ _)))

theorem limits_walk (w : World) (kind over : Int) : Calls Try.prog 3 #[.int .i64 kind, .int .i64 over] w (Ret w (.bool true)) := by
  have hk := pickI_range kind (m := 3) (by omega)
  have ho := pickI_range over (m := 3) (by omega)
  generalize hkk : pickI kind 3 = k at hk
  generalize hoo : pickI over 3 = o at ho
  have hmost : 24 ≤ mostI k ∧ mostI k ≤ 96 := by unfold mostI; split; omega; split <;> omega
  refine calls_cw (args := [_, _]) Try.func3 rfl (Mem.start w) rfl ?_
  refine cw_seq fun K1 hK1 => ?_
  refine cw_region ?_
  refine ow_ev ev_assign ?_
  refine ow_nil (hK1 _ _ ?_); clear hK1
  refine cw_seq fun K2 hK2 => ?_
  refine cw_region ?_
  refine ow_cons (st_buildSlice 3 [.int .i64 24, .int .i64 48, .int .i64 96] (k := fun b10 => ?_))
  refine ow_ev ev_move ?_
  refine ow_cons (st_callv (fun w hm => pick_spec w kind 3 (by omega) (by omega)) ?_)
  rw [hkk]
  refine ow_ev (ev_index_addr 1) ?_
  refine ow_ev (ev_load_own (v := .int .i64 (mostI k)) (hv := most_get hk.1 hk.2)) ?_
  refine ow_ev ev_assign ?_
  refine ow_nil (hK2 _ _ ?_); clear hK2
  refine cw_seq fun K3 hK3 => ?_
  refine cw_region ?_
  refine ow_ev ev_move ?_
  refine ow_ev ev_move ?_
  refine ow_cons (st_callv (fun w hm => pick_spec w over 3 (by omega) (by omega)) ?_)
  rw [hoo]
  refine ow_ev ev_add ?_
  refine ow_ev ev_sub ?_
  refine ow_ev ev_assign ?_
  refine ow_nil (hK3 _ _ ?_); clear hK3
  refine cw_seq fun K4 hK4 => ?_
  refine cw_region ?_
  refine ow_ev (ev_build (vX0.cells layX0)) ?_
  refine ow_cons (st_alloc rfl (k := fun b7 => ?_))
  refine ow_cons (st_store_all (k := ?_))
  refine ow_nil (hK4 _ _ ?_); clear hK4
  refine cw_seq fun K5 hK5 => ?_
  refine cw_seq fun K6 hK6 => ?_
  refine cw_region ?_
  refine ow_ev ev_assign ?_
  refine ow_nil (hK6 _ _ ?_); clear hK6
  refine cw_block ?_
  refine cw_imp (H' := [row 9 1 vX0.a1 (layN k 0).stations.length vX0.c1 (strCells (layN k 0).stations), row 9 1 vX0.a2 (layN k 0).points.length vX0.c2 (strCells (layN k 0).points), row 31 5 vX0.a3 (layN k 0).sections.length vX0.c3 ((layN k 0).sections.flatMap Sec.cells), own b7 28 (vX0.cells (layN k 0)), old w]) (fun w1 hm => by rw [layN_0]; exact (((hm.sub (by repeat (first | exact List.Sublist.refl _ | apply List.Sublist.cons_cons | apply List.Sublist.cons))).row_nil _ _).row_nil _ _).row_nil _ _) ?_
  refine cw_loop (γ := Int × LayV) (env := fun g => [(0, .v (.int .i64 kind)), (5, .v (.int .i64 (mostI k))), (6, .v (.int .i64 (mostI k + o - 1))), (7, .v (.pointer (some ⟨b7, 0, none⟩))), (8, .v (.int .i64 g.1))]) (mem := fun g => [row 9 1 g.2.a1 (layN k g.1.toNat).stations.length g.2.c1 (strCells (layN k g.1.toNat).stations), row 9 1 g.2.a2 (layN k g.1.toNat).points.length g.2.c2 (strCells (layN k g.1.toNat).points), row 31 5 g.2.a3 (layN k g.1.toNat).sections.length g.2.c3 ((layN k g.1.toNat).sections.flatMap Sec.cells), own b7 28 (g.2.cells (layN k g.1.toNat)), old w]) (R := fun g => 0 ≤ g.1 ∧ g.1 ≤ mostI k + o - 1) (μ := fun g => (mostI k + o - 1 - g.1).toNat) ((0, vX0)) (⟨by show (0 : Int) ≤ 0; omega, by show (0 : Int) ≤ _; omega⟩) ⟨rfl, rfl, rfl, rfl, rfl, trivial⟩ (fun _ h => h) ?_
  intro g hR1 KL1 hL1
  obtain ⟨i, v⟩ := g
  dsimp only at hR1 ⊢
  obtain ⟨hi0, hi1⟩ := hR1
  obtain ⟨hl1, hl2, hl3⟩ := layN_len k i.toNat
  refine cw_seq fun K7 hK7 => ?_
  refine cw_seq fun K8 hK8 => ?_
  refine cw_region ?_
  refine ow_ev ev_move ?_
  refine ow_ev ev_move ?_
  refine ow_ev ev_lss ?_
  refine ow_nil (hK8 _ _ ?_); clear hK8
  refine cw_if rfl (fun hc1 => ?_) (fun hc1 => ?_)  -- t23
  ·
    refine cw_skip (hK7 _ _ ?_); clear hK7
    refine cw_cut (γ := LayV) (env := fun v' => [(0, .v (.int .i64 kind)), (5, .v (.int .i64 (mostI k))), (6, .v (.int .i64 (mostI k + o - 1))), (7, .v (.pointer (some ⟨b7, 0, none⟩))), (8, .v (.int .i64 i))]) (mem := fun v' => [row 9 1 v'.a1 (layN k (i.toNat + 1)).stations.length v'.c1 (strCells (layN k (i.toNat + 1)).stations), row 9 1 v'.a2 (layN k (i.toNat + 1)).points.length v'.c2 (strCells (layN k (i.toNat + 1)).points), row 31 5 v'.a3 (layN k (i.toNat + 1)).sections.length v'.c3 ((layN k (i.toNat + 1)).sections.flatMap Sec.cells), own b7 28 (v'.cells (layN k (i.toNat + 1))), old w]) (R := fun v' => True) ?_ ?_
    · intro KJ9 hJ9
      refine cw_block ?_
      refine cw_seq fun K10 hK10 => ?_
      refine cw_region ?_
      refine ow_ev ev_move ?_
      refine ow_cons (st_callv (fun w hm => decimal_spec w i (by unfold I64; omega)) ?_)
      refine ow_ev (ev_str_add (hl := fun _ => by rw [bs_size]; have := decL_len i.toNat (by omega); rw [show ((i.toNat : Nat) : Int) = i by omega] at this; show 1 + _ ≤ _; omega)) ?_
      rw [show (ByteArray.mk #[97] ++ bs (decL i)) = bs (97 :: decL ((i.toNat : Nat) : Int)) by rw [show ((i.toNat : Nat) : Int) = i by omega]; exact bs_append [97] _]
      refine ow_ev ev_assign ?_
      refine ow_nil (hK10 _ _ ?_); clear hK10
      refine cw_seq fun K11 hK11 => ?_
      refine cw_region ?_
      refine ow_ev ev_move ?_
      refine ow_cons (st_callv (fun w hm => pick_spec w kind 3 (by omega) (by omega)) ?_)
      refine ow_nil (hK11 _ _ ?_); clear hK11
      refine cw_block ?_
      refine cw_seq fun K12 hK12 => ?_
      refine cw_region ?_
      rw [hkk]
      refine ow_ev ev_eql ?_
      refine ow_ev ev_assign ?_
      refine ow_nil (hK12 _ _ ?_); clear hK12
      refine cw_if rfl (fun hc2 => ?_) (fun hc2 => ?_)  -- t38
      ·
        refine cw_region ?_
        refine ow_ev (ev_field_addr 0) ?_
        refine ow_ev ev_load_own ?_
        refine ow_ev ev_move ?_
        refine ow_cons (st_buildSlice 9 [.string (bs (97 :: decL ((i.toNat : Nat) : Int)))] (k := fun b43 => ?_))
        refine ow_cons (st_append_own 16 (k := fun a' cap' => ?_))
        refine ow_ev (ev_field_addr 0) ?_
        refine ow_cons (st_store_own (k := ?_))
        refine ow_nil (hJ9 (⟨a', cap', v.a2, v.c2, v.a3, v.c3, v.a4, v.c4⟩) _ _ (trivial) ⟨rfl, rfl, rfl, rfl, rfl, trivial⟩ (fun w hm => by rw [layN_st hc2]; simp only [strCells, List.length_append, List.map_append, List.length_singleton, List.map_cons, List.map_nil, LayV.cells] at hm ⊢; exact hm.sub (by repeat (first | exact List.Sublist.refl _ | apply List.Sublist.cons_cons | apply List.Sublist.cons))))
      ·
        refine cw_seq fun K13 hK13 => ?_
        refine cw_region ?_
        refine ow_ev ev_eql ?_
        refine ow_ev ev_assign ?_
        refine ow_nil (hK13 _ _ ?_); clear hK13
        refine cw_if rfl (fun hc3 => ?_) (fun hc3 => ?_)  -- t46
        ·
          refine cw_region ?_
          refine ow_ev (ev_field_addr 1) ?_
          refine ow_ev ev_load_own ?_
          refine ow_ev ev_move ?_
          refine ow_cons (st_buildSlice 9 [.string (bs (97 :: decL ((i.toNat : Nat) : Int)))] (k := fun b43 => ?_))
          refine ow_cons (st_append_own 16 (k := fun a' cap' => ?_))
          refine ow_ev (ev_field_addr 1) ?_
          refine ow_cons (st_store_own (k := ?_))
          refine ow_nil (hJ9 (⟨v.a1, v.c1, a', cap', v.a3, v.c3, v.a4, v.c4⟩) _ _ (trivial) ⟨rfl, rfl, rfl, rfl, rfl, trivial⟩ (fun w hm => by rw [layN_pt hc3]; simp only [strCells, List.length_append, List.map_append, List.length_singleton, List.map_cons, List.map_nil, LayV.cells] at hm ⊢; exact hm.sub (by repeat (first | exact List.Sublist.refl _ | apply List.Sublist.cons_cons | apply List.Sublist.cons))))
        ·
          refine cw_region ?_
          refine ow_ev (ev_field_addr 2) ?_
          refine ow_ev ev_load_own ?_
          refine ow_ev ev_move ?_
          refine ow_ev (ev_build (Sec.cells ⟨bs (97 :: decL ((i.toNat : Nat) : Int)), 1, 1000, 0, -1⟩)) ?_
          refine ow_cons (st_buildSlice 31 (Sec.cells ⟨bs (97 :: decL ((i.toNat : Nat) : Int)), 1, 1000, 0, -1⟩) (k := fun b43 => ?_))
          refine ow_cons (st_append_own 48 (k := fun a' cap' => ?_))
          refine ow_ev (ev_field_addr 2) ?_
          refine ow_cons (st_store_own (k := ?_))
          refine ow_nil (hJ9 (⟨v.a1, v.c1, v.a2, v.c2, a', cap', v.a4, v.c4⟩) _ _ (trivial) ⟨rfl, rfl, rfl, rfl, rfl, trivial⟩ (fun w hm => by rw [layN_se (by omega)]; simp only [strCells, List.length_append, List.flatMap_append, List.length_singleton, List.flatMap_cons, List.flatMap_nil, List.append_nil, LayV.cells] at hm ⊢; exact hm.sub (by repeat (first | exact List.Sublist.refl _ | apply List.Sublist.cons_cons | apply List.Sublist.cons))))
    · intro v' hR
      refine cw_region ?_
      refine ow_ev ev_move ?_
      refine ow_ev ev_add ?_
      refine ow_ev ev_assign ?_
      refine ow_nil (hL1 ((i + 1, v')) _ _ (⟨by show (0 : Int) ≤ i + 1; omega, by show i + 1 ≤ _; omega⟩) (by show (_ - (i + 1)).toNat < _; omega) ⟨rfl, rfl, rfl, rfl, rfl, trivial⟩ (fun w hm => by rw [show ((i + 1, v').1).toNat = i.toNat + 1 by show (i + 1).toNat = _; omega]; exact hm))
  ·
    refine cw_exit (hK5 _ _ ?_); clear hK5
    refine cw_cut (γ := LayV) (env := fun v' => [(5, .v (.int .i64 (mostI k))), (6, .v (.int .i64 (mostI k + o - 1))), (7, .v (.pointer (some ⟨b7, 0, none⟩)))]) (mem := fun v' => [row 9 1 v'.a1 (layF k (mostI k + o - 1).toNat).stations.length v'.c1 (strCells (layF k (mostI k + o - 1).toNat).stations), row 9 1 v'.a2 (layF k (mostI k + o - 1).toNat).points.length v'.c2 (strCells (layF k (mostI k + o - 1).toNat).points), row 31 5 v'.a3 (layF k (mostI k + o - 1).toNat).sections.length v'.c3 ((layF k (mostI k + o - 1).toNat).sections.flatMap Sec.cells), own b7 28 (v'.cells (layF k (mostI k + o - 1).toNat)), old w]) (R := fun v' => True) ?_ ?_
    · intro KJ14 hJ14
      refine cw_seq fun K15 hK15 => ?_
      refine cw_region ?_
      obtain rfl : i = mostI k + o - 1 := by omega
      refine ow_ev (ev_field_addr 2) ?_
      refine ow_ev ev_load_own ?_
      refine ow_ev ev_len ?_
      refine ow_ev ev_eql ?_
      refine ow_nil (hK15 _ _ ?_); clear hK15
      refine cw_if rfl (fun hc4 => ?_) (fun hc4 => ?_)  -- t57
      ·
        refine cw_region ?_
        refine ow_ev (ev_build secX.cells) ?_
        refine ow_cons (st_buildSlice 31 secX.cells (k := fun b59 => ?_))
        refine ow_ev (ev_field_addr 2) ?_
        refine ow_cons (st_store_own (k := ?_))
        refine ow_nil (hJ14 (⟨v.a1, v.c1, v.a2, v.c2, some ⟨b59, 0, none⟩, 1, v.a4, v.c4⟩) _ _ (trivial) ⟨rfl, rfl, rfl, trivial⟩ (fun w hm => by rw [layF_of0 (by omega) hc4]; exact lim_lit (hm.sub (by repeat (first | exact List.Sublist.refl _ | apply List.Sublist.cons_cons | apply List.Sublist.cons)))))
      ·
        refine cw_skip (hJ14 (v) _ _ (trivial) ⟨rfl, rfl, rfl, trivial⟩ (fun w hm => by rw [layF_of hc4]; exact hm))
    · intro v' hR
      refine cw_seq fun K16 hK16 => ?_
      refine cw_region ?_
      refine ow_cons (st_callv (fun w hm => awake4_spec w) ?_)
      refine ow_ev ev_move ?_
      refine ow_evg rfl ev_load_all ?_
      refine ow_callg rfl (fun hg w hm => check0_spec v' _ rfl w ⟨sl_row hm .head, sl_row hm (.tail .head), sl_row hm (.tail (.tail .head)), Sl.nil⟩) ?_
      refine ow_evg rfl ev_eql ?_
      refine ow_evg rfl ev_move ?_
      refine ow_evg rfl ev_move ?_
      refine ow_evg rfl ev_leq ?_
      refine ow_evg rfl ev_bool_eql ?_
      refine ow_ev ev_and ?_
      refine ow_ev ev_move ?_
      refine ow_evg rfl ev_load_all ?_
      refine ow_callg rfl (fun hg w hm => check0_spec v' _ rfl w ⟨sl_row hm .head, sl_row hm (.tail .head), sl_row hm (.tail (.tail .head)), Sl.nil⟩) ?_
      refine ow_evg rfl ev_eql ?_
      refine ow_evg rfl ev_move ?_
      refine ow_evg rfl ev_move ?_
      refine ow_evg rfl ev_gtr ?_
      refine ow_evg rfl ev_bool_eql ?_
      refine ow_ev ev_and ?_
      refine ow_ev ev_assign ?_
      refine ow_nil (hK16 _ _ ?_); clear hK16
      refine cw_ret (kw_ret1 rfl rfl (fun w hm => ret_of hm (by rw [lim_all k o hk ho]; exact lim_bool)))

end Go.Proofs.Ytnihhidbiepnhaa

/- The contract of layout.checkLinks. -/
import Derived.Test.YtohhihdjdelckaaDoorLinks1
import Derived.Test.YtohhihdjdelckaaDoorEm
set_option linter.all false
namespace Go.Proofs.YtohhihdjdelckaaDoor
open Go.Eng Go.RowKit
set_option maxRecDepth 10000

/-- The rows hold, for each end, the links done so far that have it. -/
def RowsFor (done : List Lnk) (m : Nat) (rows : List Row) : Prop :=
  rows.length = m ∧ ∀ (i : Nat) (r : Row), rows[i]? = some r → r.n = (atEnd done i).length ∧ r.xs = (atEnd done i).flatMap Lnk.cells

theorem RowsFor.get {done : List Lnk} {m : Nat} {rows : List Row} (h : RowsFor done m rows) (e : Int) (h0 : 0 ≤ e) (h1 : e.toNat < m) :
    ∃ aa ca, rows[e.toNat * 1]? = some ⟨aa, (atEnd done e).length, ca, (atEnd done e).flatMap Lnk.cells⟩ := by
  rw [Nat.mul_one]
  have hlt : e.toNat < rows.length := by rw [h.1]; exact h1
  have hr := h.2 e.toNat rows[e.toNat] (by simp [hlt])
  rw [show ((e.toNat : Nat) : Int) = e by omega] at hr
  refine ⟨rows[e.toNat].a, rows[e.toNat].cap, ?_⟩
  rw [List.getElem?_eq_getElem hlt, ← hr.1, ← hr.2]

theorem atEnd_len (done : List Lnk) (e : Int) : (atEnd done e).length ≤ done.length := List.length_filter_le _ _

theorem atEnd_snoc (done : List Lnk) (k : Lnk) (e : Int) : atEnd (done ++ [k]) e = atEnd done e ++ if 2 * k.a + k.aEnd = e ∨ 2 * k.b + k.bEnd = e then [k] else [] := by
  unfold atEnd
  rw [List.filter_append]
  congr 1
  by_cases h1 : 2 * k.a + k.aEnd = e <;> by_cases h2 : 2 * k.b + k.bEnd = e <;> simp [h1, h2]

theorem RowsFor.step {done : List Lnk} {m : Nat} {rows : List Row} (h : RowsFor done m rows) (k : Lnk) (ea eb : Int) (ha : 2 * k.a + k.aEnd = ea) (hb : 2 * k.b + k.bEnd = eb) (hne : ea ≠ eb) (ha0 : 0 ≤ ea) (hb0 : 0 ≤ eb)
    (a1 a2 : Option Addr) (c1 c2 : Nat) :
    RowsFor (done ++ [k]) m ((rows.set (ea.toNat * 1) ⟨a1, (atEnd done ea).length + 1, c1, (atEnd done ea).flatMap Lnk.cells ++ k.cells⟩).set (eb.toNat * 1) ⟨a2, (atEnd done eb).length + 1, c2, (atEnd done eb).flatMap Lnk.cells ++ k.cells⟩) := by
  rw [Nat.mul_one, Nat.mul_one]
  refine ⟨by rw [List.length_set, List.length_set]; exact h.1, fun i r hr => ?_⟩
  rw [atEnd_snoc, ha, hb]
  by_cases hib : i = eb.toNat
  · have he : eb = (i : Int) := by omega
    rw [List.getElem?_set] at hr
    rw [if_pos hib.symm] at hr
    split at hr
    · cases hr
      subst he
      simp
    · cases hr
  · rw [List.getElem?_set_ne (Ne.symm hib)] at hr
    by_cases hia : i = ea.toNat
    · have he : ea = (i : Int) := by omega
      rw [List.getElem?_set, if_pos hia.symm] at hr
      split at hr
      · cases hr
        subst he
        simp
      · cases hr
    · rw [List.getElem?_set_ne (Ne.symm hia)] at hr
      have h1 : ¬ ea = (i : Int) := by omega
      have h2 : ¬ eb = (i : Int) := by omega
      simp only [h1, h2, or_self, if_false, List.append_nil]
      exact h.2 i r hr

theorem links_step {l : Lay} {xs : List Lnk} {j : Nat} (hj : j < xs.length) {E : Int} (h : linksErr l (xs.take j) (xs.drop j) = E) :
    (linkB l (xs.getD j lnkD) = false → E = 4) ∧ (linkB l (xs.getD j lnkD) = true →
      ((xs.getD j lnkD).a = (xs.getD j lnkD).b ∧ (xs.getD j lnkD).aEnd = (xs.getD j lnkD).bEnd → E = 1) ∧ (¬ ((xs.getD j lnkD).a = (xs.getD j lnkD).b ∧ (xs.getD j lnkD).aEnd = (xs.getD j lnkD).bEnd) →
      ((atEnd (xs.take j) (2 * (xs.getD j lnkD).a + (xs.getD j lnkD).aEnd)).any (joinB (xs.getD j lnkD).a (xs.getD j lnkD).aEnd (xs.getD j lnkD).b (xs.getD j lnkD).bEnd) = true → E = 5) ∧
      ((atEnd (xs.take j) (2 * (xs.getD j lnkD).a + (xs.getD j lnkD).aEnd)).any (joinB (xs.getD j lnkD).a (xs.getD j lnkD).aEnd (xs.getD j lnkD).b (xs.getD j lnkD).bEnd) = false →
      ((!fitsB (xs.getD j lnkD) (atEnd (xs.take j) (2 * (xs.getD j lnkD).a + (xs.getD j lnkD).aEnd)) || !fitsB (xs.getD j lnkD) (atEnd (xs.take j) (2 * (xs.getD j lnkD).b + (xs.getD j lnkD).bEnd))) = true → E = 11) ∧
      ((!fitsB (xs.getD j lnkD) (atEnd (xs.take j) (2 * (xs.getD j lnkD).a + (xs.getD j lnkD).aEnd)) || !fitsB (xs.getD j lnkD) (atEnd (xs.take j) (2 * (xs.getD j lnkD).b + (xs.getD j lnkD).bEnd))) = false →
        linksErr l (xs.take (j + 1)) (xs.drop (j + 1)) = E ∧ xs.take (j + 1) = xs.take j ++ [xs.getD j lnkD])))) := by
  have hd : xs.drop j = xs[j] :: xs.drop (j + 1) := List.drop_eq_getElem_cons hj
  have hg : xs.getD j lnkD = xs[j] := by simp [List.getD_eq_getElem?_getD, hj]
  have ht : xs.take (j + 1) = xs.take j ++ [xs[j]] := by rw [List.take_succ_eq_append_getElem hj]
  rw [hd, linksErr] at h
  rw [hg, ht]
  generalize xs[j] = k at *
  refine ⟨fun h1 => ?_, fun h1 => ⟨fun h2 => ?_, fun h2 => ⟨fun h3 => ?_, fun h3 => ⟨fun h4 => ?_, fun h4 => ?_⟩⟩⟩⟩
  · rw [if_pos h1] at h; exact h.symm
  · rw [if_neg (by simp [h1]), if_pos h2] at h; exact h.symm
  · rw [if_neg (by simp [h1]), if_neg h2, if_pos h3] at h; exact h.symm
  · rw [if_neg (by simp [h1]), if_neg h2, if_neg (by simp [h3]), if_pos (by simpa using h4)] at h; exact h.symm
  · rw [if_neg (by simp [h1]), if_neg h2, if_neg (by simp [h3]), if_neg (by simp only [Bool.or_eq_false_iff, Bool.not_eq_false'] at h4; simp [h4.1, h4.2])] at h; exact ⟨h, rfl⟩

theorem links_end {l : Lay} {xs : List Lnk} {j : Nat} (hj : xs.length ≤ j) {E : Int} (h : linksErr l (xs.take j) (xs.drop j) = E) : E = 0 := by
  rw [← h, List.drop_eq_nil_of_le hj, linksErr]

theorem hdr_get {rows : List Row} {i : Nat} {r : Row} (h : rows[i]? = some r) : (rows.map Row.hdr)[i]? = some (.slice r.a r.n r.cap) := by simp [h, Row.hdr]

theorem linkB_ends {l : Lay} {k : Lnk} (h : linkB l k = true) : (0 ≤ k.a ∧ k.a < l.sections.length ∧ 0 ≤ k.b ∧ k.b < l.sections.length) ∧ (0 ≤ k.aEnd ∧ k.aEnd ≤ 1) ∧ (0 ≤ k.bEnd ∧ k.bEnd ≤ 1) := by
  simp only [linkB, Bool.and_eq_true, Bool.or_eq_true, decide_eq_true_eq] at h
  omega

theorem rowsFor_new {m : Nat} : RowsFor [] m (List.replicate m (⟨none, 0, 0, []⟩ : Row)) := by
  refine ⟨by simp, fun i r hr => ?_⟩
  rw [List.getElem?_replicate] at hr
  split at hr
  · cases hr; exact ⟨rfl, rfl⟩
  · cases hr

theorem checkLinks_spec (w : World) (v : LayV) (l : Lay) (hl : LayAt 0 w.heap.size w v l) (hb : l.sections.length ≤ 96 ∧ l.links.length ≤ 192) : Calls Tryd.prog 37 #[.agg (v.cells l).toArray] w (Ret w (.int .i64 (linksErr l [] l.links))) := by
  obtain ⟨hb1, hb2⟩ := hb
  refine calls_cw (args := [_]) Tryd.func37 rfl (Mem.start w) rfl ?_
  refine cw_seq fun K1 hK1 => ?_
  refine cw_region ?_
  refine ow_cons (st_box (k := fun b1 => ?_))
  refine ow_ev ev_assign ?_
  refine ow_nil (hK1 _ _ ?_); clear hK1
  refine cw_seq fun K2 hK2 => ?_
  refine cw_region ?_
  refine ow_ev (ev_field_addr 2) ?_
  refine ow_ev ev_load_own ?_
  refine ow_ev ev_len ?_
  refine ow_ev ev_mul ?_
  refine ow_cons (st_makeSlice (m := 2 * l.sections.length) (e := 24) (z := .slice none 0 0) 24 (k := fun a ha => ?_) (hb := by omega) (hm' := by omega))
  refine ow_imp (H' := [row 24 1 a (2 * l.sections.length) (2 * l.sections.length) ((List.replicate (2 * l.sections.length) (⟨none, 0, 0, []⟩ : Row)).map Row.hdr), rowsC (fun _ => True) 72 6 (List.replicate (2 * l.sections.length) (⟨none, 0, 0, []⟩ : Row)), own b1 26 (v.cells l), old w]) (fun w hm => by rw [List.map_replicate]; exact (rows_new (e := 72) (sz := 6) (m := 2 * l.sections.length) hm).perm (.swap _ _ _)) ?_
  refine ow_ev ev_assign ?_
  refine ow_nil (hK2 _ _ ?_); clear hK2
  refine cw_seq fun K3 hK3 => ?_
  refine cw_seq fun K4 hK4 => ?_
  refine cw_region ?_
  refine ow_ev (ev_field_addr 3) ?_
  refine ow_ev ev_load_own ?_
  refine ow_ev ev_len ?_
  refine ow_ev ev_move ?_
  refine ow_nil (hK4 _ _ ?_); clear hK4
  refine cw_block ?_
  refine cw_loop (γ := Int × List Row) (env := fun g => [(1, .v (.pointer (some ⟨b1, 0, none⟩))), (3, .v (.slice a (2 * l.sections.length) (2 * l.sections.length))), (16, .v (.slice v.a4 l.links.length v.c4)), (17, .v (.int .i64 (l.links.length : Int))), (18, .v (.int .i64 g.1))]) (mem := fun g => [row 24 1 a (2 * l.sections.length) (2 * l.sections.length) (g.2.map Row.hdr), rowsC (fun _ => True) 72 6 g.2, own b1 26 (v.cells l), old w]) (R := fun g => 0 ≤ g.1 ∧ g.1 ≤ l.links.length ∧ RowsFor (l.links.take g.1.toNat) (2 * l.sections.length) g.2 ∧ linksErr l (l.links.take g.1.toNat) (l.links.drop g.1.toNat) = linksErr l [] l.links) (μ := fun g => (l.links.length - g.1).toNat) ((0, List.replicate (2 * l.sections.length) ⟨none, 0, 0, []⟩)) (⟨by show (0 : Int) ≤ 0; omega, by show (0 : Int) ≤ _; omega, rowsFor_new, rfl⟩) ⟨rfl, rfl, rfl, rfl, rfl, trivial⟩ (fun _ h => h) ?_
  intro g hR1 KL1 hL1
  obtain ⟨j, rows⟩ := g
  dsimp only at hR1 ⊢
  obtain ⟨hj0, hj1, hrows, hj2⟩ := hR1
  refine cw_seq fun K5 hK5 => ?_
  refine cw_region ?_
  refine ow_ev ev_lss ?_
  refine ow_nil (hK5 _ _ ?_); clear hK5
  refine cw_seq fun K6 hK6 => ?_
  refine cw_if rfl (fun hc1 => ?_) (fun hc1 => ?_)  -- t19
  ·
    refine cw_skip (hK6 _ _ ?_); clear hK6
    refine cw_seq fun K7 hK7 => ?_
    refine cw_block ?_
    refine cw_seq fun K8 hK8 => ?_
    refine cw_region ?_
    have hst := links_step (l := l) (j := j.toNat) (by omega) hj2
    have hdl : (l.links.take j.toNat).length ≤ 192 := by rw [List.length_take]; omega
    generalize hdone : l.links.take j.toNat = done at *
    obtain ⟨k, hk⟩ : ∃ k, k = l.links.getD j.toNat lnkD := ⟨_, rfl⟩
    rw [← hk] at hst
    refine ow_ev (ev_index_addr' 6 (fun _ => hl.li.addr (by rw [lnk_len]; omega))) ?_
    refine ow_ev (ev_load_cells (l := k.cells) (fun w hm q u hu => by subst hk; rw [Nat.add_assoc]; exact cell_old hl.li (lnk_get (by omega) hu) (Nat.le_refl _) (by repeat (first | exact Has.head | apply Has.tail)) w hm)) ?_
    refine ow_cons (st_alloc rfl (k := fun b5 => ?_))
    refine ow_cons (st_store_all (k := ?_))
    refine ow_nil (hK8 _ _ ?_); clear hK8
    refine cw_seq fun K9 hK9 => ?_
    refine cw_seq fun K10 hK10 => ?_
    refine cw_region ?_
    refine ow_ev ev_load_all ?_
    refine ow_ev ev_load_all ?_
    refine ow_cons (st_callv (fun w hm => linkInRange_spec w v l k) ?_)
    refine ow_ev ev_not ?_
    refine ow_nil (hK10 _ _ ?_); clear hK10
    refine cw_cond rfl (fun hc2 => ?_) (fun hc2 => ?_)  -- t25
    ·
      refine cw_seq fun K11 hK11 => ?_
      refine cw_region ?_
      refine ow_ev ev_assign ?_
      refine ow_nil (hK11 _ _ ?_); clear hK11
      refine cw_ret (kw_ret1 rfl rfl (fun w hm => ret_of hm (by rw [hst.1 (by simpa using hc2)])))
    ·
      have hlk : linkB l k = true := by simpa using hc2
      replace hst := hst.2 hlk
      obtain ⟨⟨ha0, ha1, hbb0, hbb1⟩, hae, hbe⟩ := linkB_ends hlk
      obtain ⟨ea, hea'⟩ : ∃ e, e = 2 * k.a + k.aEnd := ⟨_, rfl⟩
      obtain ⟨eb, heb'⟩ : ∃ e, e = 2 * k.b + k.bEnd := ⟨_, rfl⟩
      have hea : 0 ≤ ea ∧ ea < 2 * l.sections.length := by omega
      have heb : 0 ≤ eb ∧ eb < 2 * l.sections.length := by omega
      obtain ⟨aA, cA, hrA⟩ := hrows.get ea hea.1 (by omega)
      obtain ⟨aB, cB, hrB⟩ := hrows.get eb heb.1 (by omega)
      have hlA := atEnd_len done ea
      have hlB := atEnd_len done eb
      rw [← hea', ← heb'] at hst
      refine cw_skip (hK9 _ _ ?_); clear hK9
      refine cw_seq fun K12 hK12 => ?_
      refine cw_region ?_
      refine ow_ev ev_load_all ?_
      refine ow_cons (st_callv (fun w hm => ends_spec w k) ?_)
      refine ow_ev ev_move ?_
      refine ow_ev ev_extract ?_
      refine ow_ev ev_extract ?_
      refine ow_cons (st_alloc rfl (k := fun b6 => ?_))
      refine ow_cons (st_alloc rfl (k := fun b7 => ?_))
      refine ow_cons (st_store_all (k := ?_))
      refine ow_cons (st_store_all (k := ?_))
      refine ow_nil (hK12 _ _ ?_); clear hK12
      refine cw_seq fun K13 hK13 => ?_
      refine cw_region_any [own b7 85 [.int .i64 k.b, .int .i64 k.bEnd], own b6 85 [.int .i64 k.a, .int .i64 k.aEnd], own b5 72 k.cells, row 24 1 a (2 * l.sections.length) (2 * l.sections.length) (rows.map Row.hdr), rowsC (fun _ => True) 72 6 rows, own b1 26 (v.cells l), old w] (by repeat (first | exact List.Sublist.refl _ | apply List.Sublist.cons_cons | apply List.Sublist.cons)) ?_
      refine aw_ev 0 rfl ev_move ?_
      refine aw_ev 1 rfl ev_load_all ?_
      refine aw_ev 4 rfl ev_move ?_
      refine aw_ev 5 rfl ev_load_all ?_
      refine aw_one 2 rfl (st_callv (fun w hm => endIndex_spec w k.a k.aEnd (by omega) (by omega)) ⟨fun w hm => hm.sub (by repeat (first | exact List.Sublist.refl _ | apply List.Sublist.cons_cons | apply List.Sublist.cons)), ?_⟩)
      rw [← hea']
      refine aw_ev 3 rfl (ev_index_addr' (ad := a) 1 (fun _ => by rw [ha]; rfl)) ?_
      refine aw_one 6 rfl (st_callv (fun w hm => endIndex_spec w k.b k.bEnd (by omega) (by omega)) ⟨fun w hm => hm.sub (by repeat (first | exact List.Sublist.refl _ | apply List.Sublist.cons_cons | apply List.Sublist.cons)), ?_⟩)
      rw [← heb']
      refine aw_ev 7 rfl (ev_index_addr' (ad := a) 1 (fun _ => by rw [ha]; rfl)) ?_
      refine aw_ev 8 rfl ev_assign ?_
      refine aw_ev 9 rfl ev_assign ?_
      refine aw_done (hK13 _ _ ?_); clear hK13
      refine cw_seq fun K14 hK14 => ?_
      refine cw_block ?_
      refine cw_seq fun K15 hK15 => ?_
      refine cw_region ?_
      refine ow_ev ev_load_all ?_
      refine ow_ev ev_load_all ?_
      refine ow_ev ev_struct_eql ?_
      refine ow_ev ev_assign ?_
      refine ow_nil (hK15 _ _ ?_); clear hK15
      refine cw_if rfl (fun hc3 => ?_) (fun hc3 => ?_)  -- t39
      ·
        refine cw_seq fun K16 hK16 => ?_
        refine cw_region ?_
        refine ow_ev ev_assign ?_
        refine ow_nil (hK16 _ _ ?_); clear hK16
        refine cw_ret (kw_ret1 rfl rfl (fun w hm => ret_of hm (by rw [hst.1 hc3])))
      ·
        replace hst := hst.2 hc3
        have hne : ea ≠ eb := by omega
        refine cw_seq fun K17 hK17 => ?_
        refine cw_region_any [own b7 85 [.int .i64 k.b, .int .i64 k.bEnd], own b6 85 [.int .i64 k.a, .int .i64 k.aEnd], own b5 72 k.cells, row 24 1 a (2 * l.sections.length) (2 * l.sections.length) (rows.map Row.hdr), rowsC (fun _ => True) 72 6 rows, own b1 26 (v.cells l), old w] (by repeat (first | exact List.Sublist.refl _ | apply List.Sublist.cons_cons | apply List.Sublist.cons)) ?_
        refine aw_ev 0 rfl ev_move ?_
        refine aw_ev 1 rfl ev_nilcheck ?_
        refine aw_ev 2 rfl (ev_load_at (v := .slice aA (atEnd done ea).length cA) (cell_row (hdr_get hrA) (by repeat (first | exact Has.head | apply Has.tail)))) ?_
        refine aw_ev 3 rfl ev_load_all ?_
        refine aw_ev 4 rfl ev_load_all ?_
        refine aw_one 5 rfl (st_callv (fun w hm => joined_spec w aA cA (atEnd done ea) _ _ _ _ (sl_rows hrA trivial hm (by repeat (first | exact Has.head | apply Has.tail))) (by omega)) ⟨fun w hm => hm.sub (by repeat (first | exact List.Sublist.refl _ | apply List.Sublist.cons_cons | apply List.Sublist.cons)), ?_⟩)
        refine aw_ev 6 rfl ev_assign ?_
        refine aw_done (hK17 _ _ ?_); clear hK17
        refine cw_cond rfl (fun hc4 => ?_) (fun hc4 => ?_)  -- t43
        ·
          refine cw_seq fun K18 hK18 => ?_
          refine cw_region ?_
          refine ow_ev ev_assign ?_
          refine ow_nil (hK18 _ _ ?_); clear hK18
          refine cw_ret (kw_ret1 rfl rfl (fun w hm => ret_of hm (by rw [hst.1 hc4])))
        ·
          replace hst := hst.2 hc4
          refine cw_cut (γ := Bool) (env := fun q => [(5, .v (.pointer (some ⟨b5, 0, none⟩))), (8, .v (.pointer (some ⟨sb a, so a + ea.toNat * 1, none⟩))), (9, .v (.pointer (some ⟨sb a, so a + eb.toNat * 1, none⟩))), (50, .v (.bool q)), (1, .v (.pointer (some ⟨b1, 0, none⟩))), (3, .v (.slice a (2 * l.sections.length) (2 * l.sections.length))), (16, .v (.slice v.a4 l.links.length v.c4)), (17, .v (.int .i64 (l.links.length : Int))), (18, .v (.int .i64 j))]) (mem := fun q => [own b7 85 [.int .i64 k.b, .int .i64 k.bEnd], own b6 85 [.int .i64 k.a, .int .i64 k.aEnd], own b5 72 k.cells, row 24 1 a (2 * l.sections.length) (2 * l.sections.length) (rows.map Row.hdr), rowsC (fun _ => True) 72 6 rows, own b1 26 (v.cells l), old w]) (R := fun q => q = (!fitsB k (atEnd done ea) || !fitsB k (atEnd done eb))) ?_ ?_
          · intro KJ19 hJ19
            refine cw_seq fun K20 hK20 => ?_
            refine cw_region_any [own b7 85 [.int .i64 k.b, .int .i64 k.bEnd], own b6 85 [.int .i64 k.a, .int .i64 k.aEnd], own b5 72 k.cells, row 24 1 a (2 * l.sections.length) (2 * l.sections.length) (rows.map Row.hdr), rowsC (fun _ => True) 72 6 rows, own b1 26 (v.cells l), old w] (by repeat (first | exact List.Sublist.refl _ | apply List.Sublist.cons_cons | apply List.Sublist.cons)) ?_
            refine aw_ev 0 rfl ev_load_all ?_
            refine aw_ev 1 rfl ev_move ?_
            refine aw_ev 2 rfl ev_nilcheck ?_
            refine aw_ev 3 rfl (ev_load_at (v := .slice aA (atEnd done ea).length cA) (cell_row (hdr_get hrA) (by repeat (first | exact Has.head | apply Has.tail)))) ?_
            refine aw_one 4 rfl (st_callv (fun w hm => fits_spec w k aA cA (atEnd done ea) (sl_rows hrA trivial hm (by repeat (first | exact Has.head | apply Has.tail)))) ⟨fun w hm => hm.sub (by repeat (first | exact List.Sublist.refl _ | apply List.Sublist.cons_cons | apply List.Sublist.cons)), ?_⟩)
            refine aw_ev 5 rfl ev_not ?_
            refine aw_ev 6 rfl ev_assign ?_
            refine aw_done (hK20 _ _ ?_); clear hK20
            refine cw_cond rfl (fun hc5 => ?_) (fun hc5 => ?_)  -- t50
            ·
              refine cw_skip (hJ19 (_) _ _ (by rw [hc5]; rfl) ⟨rfl, rfl, rfl, rfl, rfl, rfl, rfl, rfl, rfl, trivial⟩ (fun _ h => h))
            ·
              refine cw_region_any [own b7 85 [.int .i64 k.b, .int .i64 k.bEnd], own b6 85 [.int .i64 k.a, .int .i64 k.aEnd], own b5 72 k.cells, row 24 1 a (2 * l.sections.length) (2 * l.sections.length) (rows.map Row.hdr), rowsC (fun _ => True) 72 6 rows, own b1 26 (v.cells l), old w] (by repeat (first | exact List.Sublist.refl _ | apply List.Sublist.cons_cons | apply List.Sublist.cons)) ?_
              refine aw_ev 0 rfl ev_load_all ?_
              refine aw_ev 1 rfl ev_move ?_
              refine aw_ev 2 rfl ev_nilcheck ?_
              refine aw_ev 3 rfl (ev_load_at (v := .slice aB (atEnd done eb).length cB) (cell_row (hdr_get hrB) (by repeat (first | exact Has.head | apply Has.tail)))) ?_
              refine aw_one 4 rfl (st_callv (fun w hm => fits_spec w k aB cB (atEnd done eb) (sl_rows hrB trivial hm (by repeat (first | exact Has.head | apply Has.tail)))) ⟨fun w hm => hm.sub (by repeat (first | exact List.Sublist.refl _ | apply List.Sublist.cons_cons | apply List.Sublist.cons)), ?_⟩)
              refine aw_ev 5 rfl ev_not ?_
              refine aw_ev 6 rfl ev_assign ?_
              refine aw_done (hJ19 (_) _ _ (by rw [hc5]; rfl) ⟨rfl, rfl, rfl, rfl, rfl, rfl, rfl, rfl, rfl, trivial⟩ (fun _ h => h))
          · intro q hR
            refine cw_cond rfl (fun hc6 => ?_) (fun hc6 => ?_)  -- t50
            ·
              refine cw_seq fun K21 hK21 => ?_
              refine cw_region ?_
              refine ow_ev ev_assign ?_
              refine ow_nil (hK21 _ _ ?_); clear hK21
              refine cw_ret (kw_ret1 rfl rfl (fun w hm => ret_of hm (by rw [hst.1 (by rw [← hR, hc6])])))
            ·
              have ht := hst.2 (by rw [← hR, hc6])
              refine cw_skip (hK14 _ _ ?_); clear hK14
              refine cw_seq fun K22 hK22 => ?_
              refine cw_region_z [own b7 85 [.int .i64 k.b, .int .i64 k.bEnd], own b6 85 [.int .i64 k.a, .int .i64 k.aEnd], own b5 72 k.cells, row 24 1 a (2 * l.sections.length) (2 * l.sections.length) (rows.map Row.hdr), own b1 26 (v.cells l), old w] 8 ?_
              refine az_ev 0 rfl ev_move ?_
              refine az_ev 1 rfl ev_move ?_
              refine az_ev 2 rfl ev_nilcheck ?_
              refine az_ev 3 rfl (ev_load_at (v := .slice aA (atEnd done ea).length cA) (cell_row (hdr_get hrA) (by repeat (first | exact Has.head | apply Has.tail)))) ?_
              refine az_ev 4 rfl ev_load_all ?_
              refine az_one 5 rfl (st_buildSlice 72 k.cells (k := fun b68 => ⟨fun w hm => hm.sub (by repeat (first | exact List.Sublist.refl _ | apply List.Sublist.cons_cons | apply List.Sublist.cons)), ?_⟩))
              refine az_imp (fun w hm => rows_split hrA trivial (hm.front (c := rowsC (fun _ => True) 72 6 rows) (by repeat (first | exact Sel.head | apply Sel.tail)))) ?_
              refine az_one 6 rfl (st_append_own 48 (k := fun a' cap' => ⟨fun w hm => hm.sub (by repeat (first | exact List.Sublist.refl _ | apply List.Sublist.cons_cons | apply List.Sublist.cons)), ?_⟩))
              refine az_ev 7 rfl ev_nilcheck ?_
              refine az_last rfl (st_store_row (j := ea.toNat * 1) (hu := by repeat (first | exact Upd.head | apply Upd.tail)) (hj := by rw [List.length_map, hrows.1]; omega) (h1 := rfl) (hx := .plain rfl) (hy := .plain rfl) (k := ?_))
              refine az_done (hK22 _ _ ?_); clear hK22
              refine cw_imp (H' := [row 24 1 a (2 * l.sections.length) (2 * l.sections.length) ((rows.set (ea.toNat * 1) (⟨a', (atEnd done ea).length + 1, cap', (atEnd done ea).flatMap Lnk.cells ++ k.cells⟩ : Row)).map Row.hdr), rowsC (fun _ => True) 72 6 (rows.set (ea.toNat * 1) (⟨a', (atEnd done ea).length + 1, cap', (atEnd done ea).flatMap Lnk.cells ++ k.cells⟩ : Row)), own b7 85 [.int .i64 k.b, .int .i64 k.bEnd], own b6 85 [.int .i64 k.a, .int .i64 k.aEnd], own b5 72 k.cells, own b1 26 (v.cells l), old w]) (fun w hm => by rw [List.map_set]; exact ((rows_join (r := ⟨a', (atEnd done ea).length + 1, cap', (atEnd done ea).flatMap Lnk.cells ++ k.cells⟩) (by rw [hrows.1]; omega) hm).front (c := row 24 1 a (2 * l.sections.length) (2 * l.sections.length) ((rows.map Row.hdr).set (ea.toNat * 1) (Row.hdr ⟨a', (atEnd done ea).length + 1, cap', (atEnd done ea).flatMap Lnk.cells ++ k.cells⟩))) (by repeat (first | exact Sel.head | apply Sel.tail))).sub (by repeat (first | exact List.Sublist.refl _ | apply List.Sublist.cons_cons | apply List.Sublist.cons))) ?_
              have hrB' : (rows.set (ea.toNat * 1) ⟨a', (atEnd done ea).length + 1, cap', (atEnd done ea).flatMap Lnk.cells ++ k.cells⟩)[eb.toNat * 1]? = some ⟨aB, (atEnd done eb).length, cB, (atEnd done eb).flatMap Lnk.cells⟩ := by rw [List.getElem?_set_ne (by omega)]; exact hrB
              have hlen1 : (rows.set (ea.toNat * 1) ⟨a', (atEnd done ea).length + 1, cap', (atEnd done ea).flatMap Lnk.cells ++ k.cells⟩).length = 2 * l.sections.length := by rw [List.length_set]; exact hrows.1
              clear hrA hrB
              generalize hrows1 : rows.set (ea.toNat * 1) ⟨a', (atEnd done ea).length + 1, cap', (atEnd done ea).flatMap Lnk.cells ++ k.cells⟩ = rows1 at *
              refine cw_region_z [row 24 1 a (2 * l.sections.length) (2 * l.sections.length) (rows1.map Row.hdr), own b7 85 [.int .i64 k.b, .int .i64 k.bEnd], own b6 85 [.int .i64 k.a, .int .i64 k.aEnd], own b5 72 k.cells, own b1 26 (v.cells l), old w] 8 ?_
              refine az_ev 0 rfl ev_move ?_
              refine az_ev 1 rfl ev_move ?_
              refine az_ev 2 rfl ev_nilcheck ?_
              refine az_ev 3 rfl (ev_load_at (v := .slice aB (atEnd done eb).length cB) (cell_row (hdr_get hrB') (by repeat (first | exact Has.head | apply Has.tail)))) ?_
              refine az_ev 4 rfl ev_load_all ?_
              refine az_one 5 rfl (st_buildSlice 72 k.cells (k := fun b76 => ⟨fun w hm => hm.sub (by repeat (first | exact List.Sublist.refl _ | apply List.Sublist.cons_cons | apply List.Sublist.cons)), ?_⟩))
              refine az_imp (fun w hm => rows_split hrB' trivial (hm.front (c := rowsC (fun _ => True) 72 6 rows1) (by repeat (first | exact Sel.head | apply Sel.tail)))) ?_
              refine az_one 6 rfl (st_append_own 48 (k := fun a2 cap2 => ⟨fun w hm => hm.sub (by repeat (first | exact List.Sublist.refl _ | apply List.Sublist.cons_cons | apply List.Sublist.cons)), ?_⟩))
              refine az_ev 7 rfl ev_nilcheck ?_
              refine az_last rfl (st_store_row (j := eb.toNat * 1) (hu := by repeat (first | exact Upd.head | apply Upd.tail)) (hj := by rw [List.length_map, hlen1]; omega) (h1 := rfl) (hx := .plain rfl) (hy := .plain rfl) (k := ?_))
              refine az_done (hK7 _ _ ?_); clear hK7
              refine cw_imp (H' := [row 24 1 a (2 * l.sections.length) (2 * l.sections.length) ((rows1.set (eb.toNat * 1) (⟨a2, (atEnd done eb).length + 1, cap2, (atEnd done eb).flatMap Lnk.cells ++ k.cells⟩ : Row)).map Row.hdr), rowsC (fun _ => True) 72 6 (rows1.set (eb.toNat * 1) (⟨a2, (atEnd done eb).length + 1, cap2, (atEnd done eb).flatMap Lnk.cells ++ k.cells⟩ : Row)), own b1 26 (v.cells l), old w]) (fun w hm => by rw [List.map_set]; exact ((rows_join (r := ⟨a2, (atEnd done eb).length + 1, cap2, (atEnd done eb).flatMap Lnk.cells ++ k.cells⟩) (by rw [hlen1]; omega) hm).front (c := row 24 1 a (2 * l.sections.length) (2 * l.sections.length) ((rows1.map Row.hdr).set (eb.toNat * 1) (Row.hdr ⟨a2, (atEnd done eb).length + 1, cap2, (atEnd done eb).flatMap Lnk.cells ++ k.cells⟩))) (by repeat (first | exact Sel.head | apply Sel.tail))).sub (by repeat (first | exact List.Sublist.refl _ | apply List.Sublist.cons_cons | apply List.Sublist.cons))) ?_
              subst hrows1
              refine cw_region ?_
              refine ow_ev ev_add ?_
              refine ow_ev ev_move ?_
              refine ow_nil (hL1 ((j + 1, (rows.set (ea.toNat * 1) (⟨a', (atEnd done ea).length + 1, cap', (atEnd done ea).flatMap Lnk.cells ++ k.cells⟩ : Row)).set (eb.toNat * 1) (⟨a2, (atEnd done eb).length + 1, cap2, (atEnd done eb).flatMap Lnk.cells ++ k.cells⟩ : Row))) _ _ (⟨by show (0 : Int) ≤ j + 1; omega, by show j + 1 ≤ _; omega, by show RowsFor (l.links.take (j + 1).toNat) _ _; rw [show (j + 1).toNat = j.toNat + 1 by omega, ht.2]; exact hrows.step k ea eb hea'.symm heb'.symm hne hea.1 heb.1 _ _ _ _, by show linksErr l (l.links.take (j + 1).toNat) (l.links.drop (j + 1).toNat) = _; rw [show (j + 1).toNat = j.toNat + 1 by omega]; exact ht.1⟩) (by show (_ - (j + 1)).toNat < _; omega) ⟨rfl, rfl, rfl, rfl, rfl, trivial⟩ (fun w hm => hm.sub (by repeat (first | exact List.Sublist.refl _ | apply List.Sublist.cons_cons | apply List.Sublist.cons))))
  ·
    refine cw_exit (hK3 _ _ ?_); clear hK3
    refine cw_seq fun K23 hK23 => ?_
    refine cw_region ?_
    refine ow_ev ev_assign ?_
    refine ow_nil (hK23 _ _ ?_); clear hK23
    refine cw_ret (kw_ret1 rfl rfl (fun w hm => ret_of hm (by rw [links_end (by omega) hj2])))

end Go.Proofs.YtohhihdjdelckaaDoor

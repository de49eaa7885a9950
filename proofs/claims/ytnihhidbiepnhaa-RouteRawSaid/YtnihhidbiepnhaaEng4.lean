/- Engine, part 4: building values, new rows, maps with string keys, comparisons of structs, pure facts. -/
import Derived.Test.YtnihhidbiepnhaaEng3
import Derived.Laws.StructEq
namespace Go.Eng
open Go.RowKit

section
variable {P : Program} {n : Nat} {w0 : World} {ρ : Env} {H : List Chunk} {g : Bool} {C : Env → List Chunk → Prop}

/-! ### Pure facts out of what memory is known -/

theorem ow_have {ops : Array Oper} {Q : Exit → Act → World → Prop} {l : List Oper} {p : Prop} (h : ∀ w, Mem w0 H w → p) (k : p → OW P n w0 ops Q l ρ H) : OW P n w0 ops Q l ρ H :=
  fun w a hm ho => k (h w hm) w a hm ho
theorem cw_have {c : Code} {Q : Exit → Act → World → Prop} {p : Prop} (h : ∀ w, Mem w0 H w → p) (k : p → CW P n w0 c Q ρ H) : CW P n w0 c Q ρ H :=
  fun w a hm ho => k (h w hm) w a hm ho
theorem aw_have {ops : Array Oper} {K : Act → World → Prop} {Hs : List Chunk} {fuel : Nat} {listed : Array Bool} {p : Prop} (h : ∀ w, Mem w0 H w → p)
    (k : p → AW P n w0 ops K Hs fuel listed ρ H) : AW P n w0 ops K Hs fuel listed ρ H := fun w a hm hs ho => k (h w hm) w a hm hs ho
/-- The list of chunks may be changed for one that follows from it. -/
theorem cw_imp {c : Code} {Q : Exit → Act → World → Prop} {H' : List Chunk} (h : ∀ w, Mem w0 H w → Mem w0 H' w) (k : CW P n w0 c Q ρ H') : CW P n w0 c Q ρ H :=
  fun w a hm ho => k w a (h w hm) ho
theorem ow_imp {ops : Array Oper} {Q : Exit → Act → World → Prop} {l : List Oper} {H' : List Chunk} (h : ∀ w, Mem w0 H w → Mem w0 H' w) (k : OW P n w0 ops Q l ρ H') : OW P n w0 ops Q l ρ H :=
  fun w a hm ho => k w a (h w hm) ho

/-- Where the ways through x meet again: what is known there is env g and mem g, under R g. -/
theorem cw_cut {γ : Type} {x y : Code} {Q : Exit → Act → World → Prop} (env : γ → Env) (mem : γ → List Chunk) (R : γ → Prop)
    (hx : ∀ K : Act → World → Prop, (∀ g' ρ' H', R g' → SubL (env g') ρ' → (∀ w, Mem w0 H' w → Mem w0 (mem g') w) → KW n w0 K ρ' H') → CW P n w0 x (Exit.then K Q) ρ H)
    (hy : ∀ g, R g → CW P n w0 y Q (env g) (mem g)) : CW P n w0 (.seq x y) Q ρ H :=
  cw_seq fun K hK => hx K fun g' _ _ hR hs hH => fun w a hm ho => hK _ _ (hy g' hR) w a (hH w hm) (ho.sub hs.sub)

/-! ### Building structs -/

inductive GetsP (ρ : Env) (g : Bool) : List (Nat × Operand) → List (Nat × Value) → Prop
  | nil : GetsP ρ g [] []
  | cons {i : Nat} {x : Operand} {v : Value} {xs : List (Nat × Operand)} {vs : List (Nat × Value)} : Gets ρ g x v → GetsP ρ g xs vs → GetsP ρ g ((i, x) :: xs) ((i, v) :: vs)

theorem GetsP.eval {xs : List (Nat × Operand)} {vs : List (Nat × Value)} {a : Act} (h : GetsP ρ g xs vs) (ho : Ok n ρ a) (hg : g = true) : xs.map (fun p => (p.1, a.eval p.2)) = vs := by
  induction h with
  | nil => rfl
  | cons h _ ih => simp [h.eval ho hg, ih]

/-- A struct value; l: its cells. -/
theorem ev_build {t : TypeId} {parts : List (Nat × Operand)} {vs : List (Nat × Value)} (l : List Value)
    (hv : GetsP ρ g parts vs := by repeat (first | exact GetsP.nil | (apply GetsP.cons; first | exact .plain rfl | exact .cond rfl id | exact .cond rfl gl)))
    (hb : ∀ w, (Instr.build t vs.toArray).run P w = .ok (.agg l.toArray) w := by intro w; kernel_rfl) : Ev P n w0 H ρ g (.build t parts.toArray) (.agg l.toArray) :=
  ev_build_of (fun hg _ ho => hv.eval ho hg) hb

theorem ev_build2 {t : TypeId} {x0 x1 : Operand} {v0 v1 : Value}
    (h0 : Gets ρ g x0 v0 := by first | exact .plain rfl | exact .cond rfl id | exact .cond rfl gl) (h1 : Gets ρ g x1 v1 := by first | exact .plain rfl | exact .cond rfl id | exact .cond rfl gl)
    (hb : ∀ w, (Instr.build t #[(0, v0), (1, v1)]).run P w = .ok (.agg #[v0, v1]) w := by intro w; kernel_rfl) : Ev P n w0 H ρ g (.build t #[(0, x0), (1, x1)]) (.agg #[v0, v1]) :=
  ev_build_of (parts := [(0, x0), (1, x1)]) (l := [v0, v1]) (fun hg _ ho => (GetsP.cons h0 (.cons h1 .nil)).eval ho hg) hb

/-! ### Slice literals -/

theorem st_buildSlice {t d len : Nat} {parts : List (Nat × Operand)} {vs : List (Nat × Value)} {ty : TypeId} {pos : String} {aft : Array Edge} {gd : Option (Nat × Bool)} (e : Nat) (l : List Value)
    (k : ∀ b, C ((d, .v (.slice (some ⟨b, 0, none⟩) len len)) :: ρ) (own b e l :: H))
    (hv : GetsP ρ true parts vs := by repeat (first | exact GetsP.nil | (apply GetsP.cons; first | exact .plain rfl | exact .cond rfl id | exact .cond rfl gl)))
    (hb : ∀ w, (Instr.buildSlice t len vs.toArray).run P w = .ok (.slice (some ⟨w.heap.size, 0, none⟩) len len) (w.alloc (.cells l.toArray e)) := by intro w; kernel_rfl)
    (hd : Nat.blt d n = true := by rfl) : StepO P n w0 ⟨some d, .buildSlice t len parts.toArray, ty, pos, aft, gd⟩ ρ H C := by
  intro K Q hs w a hm ho
  have e' := hv.eval ho rfl
  have hr : (execOp a.eval ⟨some d, .buildSlice t len parts.toArray, ty, pos, aft, gd⟩).run P w = .ok (.value (.slice (some ⟨w.heap.size, 0, none⟩) len len)) (w.alloc (.cells l.toArray e)) := by
    show (Instr.buildSlice t len (parts.toArray.map fun (i, x) => (i, a.eval x)) >>= fun v => pure (Next.value v)).run P w = _
    refine run_value ?_
    have : (parts.toArray.map fun (i, x) => (i, a.eval x)) = vs.toArray := by rw [← e']; simp
    rw [this]
    exact hb w
  unfold Oper.wp
  rw [hr]
  exact hs _ _ (k w.heap.size) _ _ (hm.alloc l e) (ho.put (by simpa [Nat.blt_eq] using hd) rfl)

/-- A block of the call's own that a slice value covers whole may be taken for a row. -/
theorem own_row {b e sz m : Nat} {l : List Value} (hl : l.length = m * sz) (hm' : m ≤ 140737488355328) {w : World} (hm : Mem w0 (own b e l :: H) w) : Mem w0 (row e sz (some ⟨b, 0, none⟩) m m l :: H) w := by
  refine hm.upd (c := own b e l) .head (Frame.refl _ w) ?_ ?_
  · have h : w.heap[b]? = some (.cells l.toArray e (0, 0)) := (Has.head : Has (own b e l :: H) _).φ hm
    refine ⟨hl, .inr ⟨b, m, l.toArray, rfl, Nat.zero_le _, h, Nat.le_refl _, by simp only [maxLen]; omega, by simpa using hl, ?_⟩⟩
    rw [← hl]; simp
  · rintro k ⟨p, hp, rfl⟩
    cases hp
    exact ⟨.inl rfl, (Has.head : Has (own b e l :: H) _).lt hm rfl⟩

/-! ### make -/

theorem st_makeSlice {x y : Operand} {t d m e : Nat} {ty : TypeId} {pos : String} {aft : Array Edge} {gd : Option (Nat × Bool)} {k1 k2 : IntKind} {z : Value} (by_ : Nat)
    (k : ∀ a, a = some ⟨sb a, 0, none⟩ → C ((d, .v (.slice a m m)) :: ρ) (row e 1 a m m (List.replicate m z) :: H))
    (hb : by_ * m ≤ 140737488355328) (hm' : m ≤ 140737488355328) {p q : Int}
    (hx : Gets ρ true x (.int k1 p) := by first | exact .plain rfl | exact .cond rfl id | exact .cond rfl gl) (hy : Gets ρ true y (.int k2 q) := by first | exact .plain rfl | exact .cond rfl id | exact .cond rfl gl) (hp : p = (m : Int) := by omega) (hq : q = (m : Int) := by omega)
    (hi : rowInfo P t e 1 by_ = true := by kernel_rfl) (hz : zeroT P e = some [z] := by kernel_rfl)
    (hd : Nat.blt d n = true := by rfl) : StepO P n w0 ⟨some d, .makeSlice t x y, ty, pos, aft, gd⟩ ρ H C := by
  intro K Q hs w a hm ho
  obtain ⟨hut, i, z', hi', hsz, hby, hzz, hzs, hpos⟩ := rowInfo_spec hi
  have hz' : z'.cells = #[z] := by
    unfold zeroT at hz
    rw [hi'] at hz
    simp [hzz] at hz
    exact Array.toList_inj.1 hz
  obtain ⟨w', hr, hown, hgr⟩ := run_make_full (P := P) w 0 t e i z' 1 hut hi' hzz hsz k1 k2 m (by rw [hby]; omega) (by simp only [maxLen]; omega) (Nat.zero_le _)
  rw [hz', Nat.mul_one, toList_madeCells_one] at hown
  have hrun : (execOp a.eval ⟨some d, .makeSlice t x y, ty, pos, aft, gd⟩).run P w = .ok (.value (.slice (some ⟨w.heap.size, 0, none⟩) m m)) w' := by
    show (Instr.makeSlice t (a.eval x) (a.eval y) >>= fun v => pure (Next.value v)).run P w = _
    rw [hx.eval ho rfl, hy.eval ho rfl, hp, hq]
    exact run_value hr
  unfold Oper.wp
  rw [hrun]
  refine hs _ _ (k (some ⟨w.heap.size, 0, none⟩) rfl) w' _ (hm.add ⟨hgr.os, hgr.tape, hgr.output, hgr.size, fun kk hk _ => hgr.block kk hk (by simp)⟩ hown ?_) (ho.put (by simpa [Nat.blt_eq] using hd) rfl)
  rintro kk ⟨p, hp, rfl⟩
  cases hp
  exact ⟨Nat.le_refl _, (hown.lt _ rfl).2⟩

/-! ### Rows: cells -/

theorem row_addr {w : World} {e sz m cap : Nat} {a : Option Addr} {xs : List Value} (h : (row e sz a m cap xs).φ w) (hm : 0 < m) : a = some ⟨sb a, so a, none⟩ ∧ so a = 0 := by
  rcases h.2 with ⟨_, h0⟩ | ⟨gb, cap', cur, hv, _⟩
  · omega
  · simp only [Value.slice.injEq] at hv
    rw [hv.1]
    exact ⟨rfl, rfl⟩

theorem row_len {w : World} {e sz m cap : Nat} {a : Option Addr} {xs : List Value} (h : (row e sz a m cap xs).φ w) : xs.length = m * sz := h.1

theorem row_cell {w : World} {e sz m cap j : Nat} {a : Option Addr} {xs : List Value} {v : Value} (h : (row e sz a m cap xs).φ w) (hj : xs[j]? = some v) : w.cell? ⟨sb a, so a + j, none⟩ = some v := by
  have hlt : j < xs.length := (List.getElem?_eq_some_iff.1 hj).1
  rcases h.2 with ⟨_, h0⟩ | ⟨gb, cap', cur, hv, hb, hh, h1, h2, h3, h4⟩
  · rw [h.1, h0] at hlt; omega
  · simp only [Value.slice.injEq] at hv
    obtain ⟨hva, _, _⟩ := hv
    subst hva
    show w.cell? ⟨gb, 0 + j, none⟩ = some v
    have hc : cur[j]? = some v := by
      rw [← h4] at hj
      rw [List.getElem?_take] at hj
      split at hj
      · simpa using hj
      · cases hj
    simp [World.cell?, hh, hc]

theorem cell_row {e sz m cap j : Nat} {a : Option Addr} {xs : List Value} {v : Value} (hj : xs[j]? = some v) (hh : Has H (row e sz a m cap xs)) :
    ∀ w, Mem w0 H w → w.cell? ⟨sb a, so a + j, none⟩ = some v := fun _ hm => row_cell (hh.φ hm) hj

/-- One cell of a row of the call's own is written. -/
theorem st_store_row {x y : Operand} {t e sz m cap j : Nat} {ty : TypeId} {pos : String} {aft : Array Edge} {gd : Option (Nat × Bool)} {a : Option Addr} {xs : List Value} {v : Value} {H' : List Chunk}
    (hu : Upd H (row e sz a m cap xs) (row e sz a m cap (xs.set j v)) H') (hj : j < xs.length) (h1 : v.oneCell' = true)
    (hx : Gets ρ true x (.pointer (some ⟨sb a, so a + j, none⟩))) (hy : Gets ρ true y v)
    (k : C ρ H') (ht : P.cellsOf t = 1 := by kernel_rfl) (hti : (P.info? t).isSome = true := by kernel_rfl) : StepO P n w0 ⟨none, .store t x y, ty, pos, aft, gd⟩ ρ H C := by
  intro K Q hs w act hm ho
  have hφ := hu.has.φ hm
  have hc : ∃ u, w.cell? ⟨sb a, so a + j, none⟩ = some u := ⟨xs[j], row_cell hφ (by simp [hj])⟩
  have hpos : 0 < m := by
    rcases Nat.eq_zero_or_pos m with h | h
    · have := row_len hφ; rw [h] at this; omega
    · exact h
  have ha := (row_addr hφ hpos)
  rcases hφ.2 with ⟨_, h0⟩ | ⟨gb, cap', cur, hv, hb, hh, h3, h4, h5, h6⟩
  · omega
  · simp only [Value.slice.injEq] at hv
    obtain ⟨hva, _, hvc⟩ := hv
    subst hva
    subst hvc
    obtain ⟨u, hu'⟩ := hc
    have hadd : (⟨sb (some (⟨gb, 0, none⟩ : Addr)), so (some (⟨gb, 0, none⟩ : Addr)) + j, none⟩ : Addr) = ⟨gb, j, none⟩ := by simp [sb, so]
    rw [hadd] at hu' hx
    have hfz : w.frozen? ⟨gb, j, none⟩ = false := by simp [World.frozen?, hh]
    cases hi : P.info? t with
    | none => rw [hi] at hti; cases hti
    | some i =>
      have hsz : i.size = 1 := by simpa [Program.cellsOf, hi] using ht
      have hcells : v.cells = #[v] := by cases v <;> first | rfl | simp [Value.oneCell'] at h1
      have hst : (storeCells ⟨gb, j, none⟩ [v] 0).run P w = .ok () (w.setCell ⟨gb, j, none⟩ v) := by
        show (store (Addr.add ⟨gb, j, none⟩ 0) v >>= fun _ => storeCells ⟨gb, j, none⟩ [] 1).run P w = _
        have hst1 : (store (Addr.add ⟨gb, j, none⟩ 0) v).run P w = .ok () (w.setCell ⟨gb, j, none⟩ v) := by
          simp only [Addr.add, if_true]
          cases v <;> first
            | (simp [Value.oneCell'] at h1; done)
            | (simp only [store, Sem.run, hu', hfz]; rfl)
        rw [run_bind_ok hst1]
        rfl
      have hrun : (execOp act.eval ⟨none, .store t x y, ty, pos, aft, gd⟩).run P w = .ok .skip (w.setCell ⟨gb, j, none⟩ v) := by
        show ((Instr.storeAt t (act.eval x) (act.eval y)) >>= fun _ => pure Next.skip).run P w = _
        rw [hx.eval ho rfl, hy.eval ho rfl]
        have : (Instr.storeAt t (.pointer (some ⟨gb, j, none⟩)) v).run P w = .ok () (w.setCell ⟨gb, j, none⟩ v) := by
          show (storeVar t ⟨gb, j, none⟩ v).run P w = _
          unfold storeVar
          rw [run_bind_ok (run_size hi w), hcells]
          have hsz2 : ¬ ((#[v] : Array Value).size ≠ i.size) := by simp [hsz]
          simp only [hsz2, if_false]
          exact hst
        rw [run_bind_ok this]
        rfl
      unfold Oper.wp
      rw [hrun]
      refine hs _ _ k _ _ (hm.upd hu ⟨rfl, rfl, rfl, by simp [World.setCell], fun kk _ hn => Below.heap_setCell _ _ _ _ (fun e => hn ⟨_, rfl, e⟩)⟩ ?_ ?_) ho
      · refine ⟨by rw [List.length_set]; exact hφ.1, .inr ⟨gb, cap, cur.setIfInBounds j v, rfl, Nat.zero_le _, ?_, h3, h4, by simp [h5], ?_⟩⟩
        · show (w.setCell ⟨gb, j, none⟩ v).heap[gb]? = _
          simp [World.setCell, Array.getElem?_modify, hh]
        · rw [← h6]
          simp [List.take_set]
      · rintro kk ⟨p, hp, rfl⟩
        cases hp
        exact ⟨.inl ⟨_, rfl, rfl⟩, by
          have := hu.has.lt hm (k := gb) ⟨_, rfl, rfl⟩
          simpa [World.setCell] using this⟩

/-! ### Structs of two integers -/

def twoInts (P : Program) (t : TypeId) : Bool :=
  (match P.underlying t with
   | some (.struct fs) => match fs.toList with
     | [f0, f1] => (f0.name != "_") && (f1.name != "_") && f0.offset == 0 && f1.offset == 1 && (P.underlying f0.type matches some (.int .i64)) && (P.underlying f1.type matches some (.int .i64))
     | _ => false
   | _ => false) && !P.stoodInHeld t && !P.eqGuardType P.depth t

theorem run_part_int {t : TypeId} {k : IntKind} {cs : Array Value} {o : Nat} {v : Value} {w : World} (hu : P.underlying t = some (.int k)) (hv : cs[o]? = some v) : (part t cs o).run P w = .ok v w := by
  have ha : (isAgg t).run P w = .ok false w := run_isAgg_false (by simp [oneT, hu]) w
  unfold part
  rw [run_bind_ok ha]
  simp [hv, go_sem]

theorem run_equal2 {t : TypeId} {a b c d : Int} {w : World} (ht : twoInts P t = true) :
    (Op.equalIn 10000 t (.agg #[.int .i64 a, .int .i64 b]) (.agg #[.int .i64 c, .int .i64 d])).run P w = .ok (decide (a = c ∧ b = d)) w ∧ P.eqGuardType P.depth t = false := by
  unfold twoInts at ht
  simp only [Bool.and_eq_true, Bool.not_eq_true'] at ht
  obtain ⟨⟨h1, h2⟩, h3⟩ := ht
  refine ⟨?_, h3⟩
  cases hu : P.underlying t with
  | none => rw [hu] at h1; cases h1
  | some ds =>
    rw [hu] at h1
    cases ds with
    | struct fs =>
      have hfs : P.fieldsOf t = fs := by simp [Program.fieldsOf, hu]
      rw [run_equalIn_struct w 9999 t _ _ (by rw [hfs]; exact hu) h2, hfs]
      obtain ⟨fl⟩ := fs
      simp only at h1
      match fl, h1 with
      | [f0, f1], h1 =>
        simp only [Bool.and_eq_true, bne_iff_ne, ne_eq, beq_iff_eq] at h1
        obtain ⟨⟨⟨⟨⟨g1, g2⟩, g3⟩, g4⟩, g5⟩, g6⟩ := h1
        have u0 : P.underlying f0.type = some (.int .i64) := by revert g5; cases P.underlying f0.type with | none => simp | some d => cases d with | int k => cases k <;> simp | _ => simp
        have u1 : P.underlying f1.type = some (.int .i64) := by revert g6; cases P.underlying f1.type with | none => simp | some d => cases d with | int k => cases k <;> simp | _ => simp
        have p0 := fun (x y : Int) => run_part_int (w := w) (cs := #[.int .i64 x, .int .i64 y]) (o := 0) (v := .int .i64 x) u0 rfl
        have p1 := fun (x y : Int) => run_part_int (w := w) (cs := #[.int .i64 x, .int .i64 y]) (o := 1) (v := .int .i64 y) u1 rfl
        simp only [Op.eqFields, ne_eq, g1, g2, g3, g4, not_false_eq_true, if_true]
        rw [run_bind_ok (p0 a b), run_bind_ok (p0 c d), run_bind_ok (run_equalIn_int w 9998 f0.type .i64 .i64 a c u0)]
        by_cases e1 : a = c
        · simp only [e1, beq_self_eq_true, Bool.not_true, Bool.false_eq_true, if_false, true_and]
          rw [run_bind_ok (p1 c b), run_bind_ok (p1 c d), run_bind_ok (run_equalIn_int w 9998 f1.type .i64 .i64 b d u1)]
          by_cases e2 : b = d
          · simp [e2, go_sem]
          · simp [e2, go_sem]
        · simp [e1, go_sem]
    | _ => cases h1

theorem ev_struct_eql {x y : Operand} {t u : TypeId} {a b c d : Int}
    (hx : Gets ρ g x (.agg #[.int .i64 a, .int .i64 b]) := by first | exact .plain rfl | exact .cond rfl id | exact .cond rfl gl) (hy : Gets ρ g y (.agg #[.int .i64 c, .int .i64 d]) := by first | exact .plain rfl | exact .cond rfl id | exact .cond rfl gl)
    (ht : twoInts P t = true := by kernel_rfl) : Ev P n w0 H ρ g (.binOp .eql t x y u) (.bool (decide (a = c ∧ b = d))) := by
  intro w act dst ty pos aft gd hm ho hg
  obtain ⟨h1, h2⟩ := run_equal2 (a := a) (b := b) (c := c) (d := d) (w := w) ht
  simp only [execOp, hx.eval ho hg, hy.eval ho hg]
  refine run_value ?_
  rw [run_bind_ok (run_eqGuard_agg (P := P) w .eql t x y _ _ h2), run_eql_struct, h1]
  rfl
theorem ev_struct_neq {x y : Operand} {t u : TypeId} {a b c d : Int}
    (hx : Gets ρ g x (.agg #[.int .i64 a, .int .i64 b]) := by first | exact .plain rfl | exact .cond rfl id | exact .cond rfl gl) (hy : Gets ρ g y (.agg #[.int .i64 c, .int .i64 d]) := by first | exact .plain rfl | exact .cond rfl id | exact .cond rfl gl)
    (ht : twoInts P t = true := by kernel_rfl) : Ev P n w0 H ρ g (.binOp .neq t x y u) (.bool (!decide (a = c ∧ b = d))) := by
  intro w act dst ty pos aft gd hm ho hg
  obtain ⟨h1, h2⟩ := run_equal2 (a := a) (b := b) (c := c) (d := d) (w := w) ht
  simp only [execOp, hx.eval ho hg, hy.eval ho hg]
  refine run_value ?_
  rw [run_bind_ok (run_eqGuard_agg (P := P) w .neq t x y _ _ h2), run_neq_struct, h1]
  rfl
end
end Go.Eng

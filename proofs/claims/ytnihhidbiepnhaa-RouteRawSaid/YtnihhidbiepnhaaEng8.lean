/- Engine, part 8: a slice of slices of the call's own, each of which grows by itself; stores in general. -/
import Derived.Test.YtnihhidbiepnhaaEng7
namespace Go.Eng
open Go.RowKit

theorem aw_imp {P : Program} {n : Nat} {w0 : World} {ρ : Env} {H H' : List Chunk} {ops : Array Oper} {K : Act → World → Prop} {Hs : List Chunk} {fuel : Nat} {listed : Array Bool}
    (h : ∀ w, Mem w0 H w → Mem w0 H' w) (k : AW P n w0 ops K Hs fuel listed ρ H') : AW P n w0 ops K Hs fuel listed ρ H := fun w a hm hs ho => k w a (h w hm) hs ho

section
variable {P : Program} {n : Nat} {w0 : World} {ρ : Env} {H : List Chunk} {C : Env → List Chunk → Prop}

/-- One cell is written; c turns into c'. -/
theorem st_store_gen {x y : Operand} {t : Nat} {ty : TypeId} {pos : String} {aft : Array Edge} {gd : Option (Nat × Bool)} {p : Addr} {v : Value} {c c' : Chunk} {H' : List Chunk}
    (hc : ∀ w, c.φ w → (∃ u, w.cell? p = some u) ∧ w.frozen? p = false ∧ c.fp p.block ∧ c'.φ (w.setCell p v)) (hfp : ∀ k, c'.fp k → c.fp k)
    (h1 : v.oneCell' = true) (hu : Upd H c c' H') (k : C ρ H')
    (hx : Gets ρ true x (.pointer (some p)) := by first | exact .plain rfl | exact .cond rfl id | exact .cond rfl gl) (hy : Gets ρ true y v := by first | exact .plain rfl | exact .cond rfl id | exact .cond rfl gl)
    (ht : P.cellsOf t = 1 := by kernel_rfl) (hti : (P.info? t).isSome = true := by kernel_rfl) : StepO P n w0 ⟨none, .store t x y, ty, pos, aft, gd⟩ ρ H C := by
  intro K Q hs w act hm ho
  obtain ⟨⟨u, hcell⟩, hfz, hpb, hφ⟩ := hc w (hu.has.φ hm)
  cases hi : P.info? t with
  | none => rw [hi] at hti; cases hti
  | some i =>
    have hsz : i.size = 1 := by simpa [Program.cellsOf, hi] using ht
    have hcells : v.cells = #[v] := by cases v <;> first | rfl | simp [Value.oneCell'] at h1
    have hst1 : (store (Addr.add p 0) v).run P w = .ok () (w.setCell p v) := by
      simp only [Addr.add, if_true]
      cases v <;> first
        | (simp [Value.oneCell'] at h1; done)
        | (simp only [store, Sem.run, hcell, hfz]; rfl)
    have hst : (storeCells p [v] 0).run P w = .ok () (w.setCell p v) := by
      show (store (Addr.add p 0) v >>= fun _ => storeCells p [] 1).run P w = _
      rw [run_bind_ok hst1]
      rfl
    have hrun : (execOp act.eval ⟨none, .store t x y, ty, pos, aft, gd⟩).run P w = .ok .skip (w.setCell p v) := by
      show ((Instr.storeAt t (act.eval x) (act.eval y)) >>= fun _ => pure Next.skip).run P w = _
      rw [hx.eval ho rfl, hy.eval ho rfl]
      have : (Instr.storeAt t (.pointer (some p)) v).run P w = .ok () (w.setCell p v) := by
        show (storeVar t p v).run P w = _
        unfold storeVar
        rw [run_bind_ok (run_size hi w), hcells]
        have hsz2 : ¬ ((#[v] : Array Value).size ≠ i.size) := by simp [hsz]
        simp only [hsz2, if_false]
        exact hst
      rw [run_bind_ok this]
      rfl
    unfold Oper.wp
    rw [hrun]
    refine hs _ _ k _ _ (hm.upd hu ⟨rfl, rfl, rfl, by simp [World.setCell], fun kk _ hn => Below.heap_setCell _ _ _ _ (fun e => hn (e ▸ hpb))⟩ hφ ?_) ho
    intro kk hkk
    exact ⟨.inl (hfp kk hkk), by have := hu.has.lt hm (hfp kk hkk); simpa [World.setCell] using this⟩
end

/-- A row's header and cells. -/
structure Row where
  a : Option Addr
  n : Nat
  cap : Nat
  xs : List Value
def Row.hdr (r : Row) : Value := .slice r.a r.n r.cap

theorem ownsRow_set {w : World} {e m cap : Nat} {a : Option Addr} {xs : List Value} {j : Nat} {v : Value} (h : w.ownsRow 0 e 1 (.slice a m cap) m xs) (hj : j < xs.length) :
    (∃ u, w.cell? ⟨sb a, so a + j, none⟩ = some u) ∧ w.frozen? ⟨sb a, so a + j, none⟩ = false ∧ (∃ p, a = some p ∧ sb a = p.block) ∧ (w.setCell ⟨sb a, so a + j, none⟩ v).ownsRow 0 e 1 (.slice a m cap) m (xs.set j v) := by
  have hlen := h.1
  rcases h.2 with ⟨_, h0⟩ | ⟨gb, cap', cur, hv, hb, hh, h3, h4, h5, h6⟩
  · rw [h0] at hlen; omega
  · simp only [Value.slice.injEq] at hv
    obtain ⟨hva, _, hvc⟩ := hv
    subst hva
    subst hvc
    have hadd : (⟨sb (some (⟨gb, 0, none⟩ : Addr)), so (some (⟨gb, 0, none⟩ : Addr)) + j, none⟩ : Addr) = ⟨gb, j, none⟩ := by simp [sb, so]
    rw [hadd]
    refine ⟨⟨cur[j]'(by rw [h5]; omega), by simp [World.cell?, hh]⟩, by simp [World.frozen?, hh], ⟨_, rfl, rfl⟩, ?_⟩
    refine ⟨by rw [List.length_set]; exact hlen, .inr ⟨gb, cap, cur.setIfInBounds j v, rfl, Nat.zero_le _, ?_, h3, h4, by simp [h5], ?_⟩⟩
    · show (w.setCell ⟨gb, j, none⟩ v).heap[gb]? = _
      simp [World.setCell, Array.getElem?_modify, hh]
    · rw [← h6]
      simp [List.take_set]

/-- Rows of the call's own, each a block of its own: those of 'on'. -/
def rowsC (on : Nat → Prop) (e sz : Nat) (rows : List Row) : Chunk where
  fp := fun k => ∃ i r p, rows[i]? = some r ∧ on i ∧ r.a = some p ∧ k = p.block
  φ := fun w => (∀ i r, rows[i]? = some r → on i → w.ownsRow 0 e sz (.slice r.a r.n r.cap) r.n r.xs) ∧
    (∀ i j r s p q, i ≠ j → rows[i]? = some r → rows[j]? = some s → on i → on j → r.a = some p → s.a = some q → p.block ≠ q.block)
  dep := fun w w' h hw => by
    obtain ⟨h2, h3⟩ := hw
    refine ⟨fun i r hr hon => ?_, h3⟩
    exact (row e sz r.a r.n r.cap r.xs).dep w w' (fun k hk => by obtain ⟨p, hp, rfl⟩ := hk; exact h _ ⟨i, r, p, hr, hon, hp, rfl⟩) (h2 i r hr hon)

section
variable {w0 w : World} {H : List Chunk} {e sz : Nat} {rows : List Row} {on : Nat → Prop}

theorem sl_ownsRow {e sz m cap : Nat} {a : Option Addr} {xs : List Value} (h : w.ownsRow 0 e sz (.slice a m cap) m xs) (hlt : ∀ p, a = some p → p.block < w.heap.size) : Sl 0 w.heap.size w a xs := fun j u hu => by
  have hpos : 0 < m := by
    rcases Nat.eq_zero_or_pos m with h0 | h0
    · have := h.1; rw [h0, Nat.zero_mul] at this
      have : xs = [] := List.length_eq_zero_iff.1 this
      subst this; simp at hu
    · exact h0
  have ha := row_addr (e := e) (sz := sz) (cap := cap) (xs := xs) h hpos
  exact ⟨ha.1, Nat.zero_le _, hlt _ ha.1, row_cell (e := e) (sz := sz) (cap := cap) h hu⟩

theorem sl_rows {i : Nat} {r : Row} (hr : rows[i]? = some r) (hon : on i) (hm : Mem w0 H w) (hh : Has H (rowsC on e sz rows)) : Sl 0 w.heap.size w r.a r.xs :=
  sl_ownsRow ((hh.φ hm).1 i r hr hon) (fun p hp => hh.lt hm ⟨i, r, p, hr, hon, hp, rfl⟩)

/-- One row is taken out. -/
theorem rows_split {i : Nat} {r : Row} (hr : rows[i]? = some r) (hon : on i) (hm : Mem w0 (rowsC on e sz rows :: H) w) :
    Mem w0 (row e sz r.a r.n r.cap r.xs :: rowsC (fun j => on j ∧ j ≠ i) e sz rows :: H) w := by
  have hφ := (Has.head : Has (rowsC on e sz rows :: H) _).φ hm
  have hlt : ∀ k, (rowsC on e sz rows).fp k → k < w.heap.size := fun k hk => (Has.head : Has (rowsC on e sz rows :: H) _).lt hm hk
  obtain ⟨h2, h3⟩ := hφ
  have hd := List.pairwise_cons.1 hm.disj
  refine ⟨hm.os, hm.tape, hm.output, hm.size, ?_, ?_⟩
  · intro c hc
    rcases List.mem_cons.1 hc with rfl | hc
    · exact ⟨h2 i r hr hon, fun k hk => by obtain ⟨p, hp, rfl⟩ := hk; exact hlt _ ⟨i, r, p, hr, hon, hp, rfl⟩⟩
    · rcases List.mem_cons.1 hc with rfl | hc
      · refine ⟨⟨fun j s hs ho => h2 j s hs ho.1, fun j j' s s' p q hne hs hs' ho ho' => h3 j j' s s' p q hne hs hs' ho.1 ho'.1⟩, fun k hk => hlt k ?_⟩
        obtain ⟨j, s, p, hs, ho, hp, rfl⟩ := hk
        exact ⟨j, s, p, hs, ho.1, hp, rfl⟩
      · exact hm.all c (List.mem_cons_of_mem _ hc)
  · rw [List.pairwise_cons, List.pairwise_cons]
    refine ⟨fun c hc k hk hk' => ?_, fun c hc k hk hk' => ?_, hd.2⟩
    · obtain ⟨p, hp, rfl⟩ := hk
      rcases List.mem_cons.1 hc with rfl | hc
      · obtain ⟨j, s, q, hs, ho, hq, e⟩ := hk'
        exact h3 i j r s p q (Ne.symm ho.2) hr hs hon ho.1 hp hq e
      · exact hd.1 c hc p.block ⟨i, r, p, hr, hon, hp, rfl⟩ hk'
    · refine hd.1 c hc k ?_ hk'
      obtain ⟨j, s, p, hs, ho, hp, rfl⟩ := hk
      exact ⟨j, s, p, hs, ho.1, hp, rfl⟩

/-- A row is put in, at the place that is out; what stood there does not matter. -/
theorem rows_join {i : Nat} {r : Row} (hi : i < rows.length) (hm : Mem w0 (row e sz r.a r.n r.cap r.xs :: rowsC (fun j => True ∧ j ≠ i) e sz rows :: H) w) :
    Mem w0 (rowsC (fun _ => True) e sz (rows.set i r) :: H) w := by
  have hrow := (Has.head : Has (row e sz r.a r.n r.cap r.xs :: rowsC (fun j => True ∧ j ≠ i) e sz rows :: H) _).φ hm
  have hg := ((Has.head).tail : Has (row e sz r.a r.n r.cap r.xs :: rowsC (fun j => True ∧ j ≠ i) e sz rows :: H) (rowsC (fun j => True ∧ j ≠ i) e sz rows)).φ hm
  have hd := List.pairwise_cons.1 hm.disj
  have hd2 := List.pairwise_cons.1 hd.2
  have hrg := hd.1 (rowsC (fun j => True ∧ j ≠ i) e sz rows) List.mem_cons_self
  obtain ⟨h2, h3⟩ := hg
  have get : ∀ j s, (rows.set i r)[j]? = some s → (j = i ∧ s = r) ∨ (j ≠ i ∧ rows[j]? = some s) := fun j s hs => by
    by_cases hji : j = i
    · subst hji
      rw [List.getElem?_set_self hi] at hs
      cases hs
      exact .inl ⟨rfl, rfl⟩
    · rw [List.getElem?_set_ne (Ne.symm hji)] at hs
      exact .inr ⟨hji, hs⟩
  refine ⟨hm.os, hm.tape, hm.output, hm.size, ?_, ?_⟩
  · intro c hc
    rcases List.mem_cons.1 hc with rfl | hc
    · refine ⟨⟨fun j s hs _ => ?_, fun j j' s s' p q hne hs hs' _ _ hp hq => ?_⟩, fun k hk => ?_⟩
      · rcases get j s hs with ⟨_, rfl⟩ | ⟨hji, hs⟩
        · exact hrow
        · exact h2 j s hs ⟨trivial, hji⟩
      · rcases get j s hs with ⟨rfl, rfl⟩ | ⟨hji, hs1⟩
        · rcases get j' s' hs' with ⟨rfl, rfl⟩ | ⟨hji', hs'⟩
          · exact absurd rfl hne
          · intro e
            exact hrg p.block ⟨p, hp, rfl⟩ ⟨j', s', q, hs', ⟨trivial, hji'⟩, hq, e⟩
        · rcases get j' s' hs' with ⟨rfl, rfl⟩ | ⟨hji', hs2⟩
          · intro e
            exact hrg q.block ⟨q, hq, rfl⟩ ⟨j, s, p, hs1, ⟨trivial, hji⟩, hp, e.symm⟩
          · exact h3 j j' s s' p q hne hs1 hs2 ⟨trivial, hji⟩ ⟨trivial, hji'⟩ hp hq
      · obtain ⟨j, s, p, hs, _, hp, rfl⟩ := hk
        rcases get j s hs with ⟨rfl, rfl⟩ | ⟨hji, hs⟩
        · exact (hm.all _ List.mem_cons_self).2 _ ⟨p, hp, rfl⟩
        · exact (hm.all _ (List.mem_cons_of_mem _ List.mem_cons_self)).2 _ ⟨j, s, p, hs, ⟨trivial, hji⟩, hp, rfl⟩
    · exact hm.all c (List.mem_cons_of_mem _ (List.mem_cons_of_mem _ hc))
  · rw [List.pairwise_cons]
    refine ⟨fun c hc k hk hk' => ?_, hd2.2⟩
    obtain ⟨j, s, p, hs, _, hp, rfl⟩ := hk
    rcases get j s hs with ⟨rfl, rfl⟩ | ⟨hji, hs⟩
    · exact hd.1 c (List.mem_cons_of_mem _ hc) _ ⟨p, hp, rfl⟩ hk'
    · exact hd2.1 c hc _ ⟨j, s, p, hs, ⟨trivial, hji⟩, hp, rfl⟩ hk'

/-- Rows that are all nil. -/
theorem rows_new {m : Nat} (hm : Mem w0 H w) : Mem w0 (rowsC (fun _ => True) e sz (List.replicate m (⟨none, 0, 0, []⟩ : Row)) :: H) w := by
  have hg : ∀ i r, (List.replicate m (⟨none, 0, 0, []⟩ : Row))[i]? = some r → r = (⟨none, 0, 0, []⟩ : Row) := fun i r hr => by
    rw [List.getElem?_replicate] at hr
    split at hr
    · simpa using hr.symm
    · cases hr
  refine hm.add (c := rowsC (fun _ => True) e sz (List.replicate m (⟨none, 0, 0, []⟩ : Row))) (Frame.refl _ w) ⟨fun i r hr _ => ?_, fun i j r s p q _ hr hs _ _ hp => ?_⟩ ?_
  · have := hg i r hr; subst this; exact World.ownsRow_nil w 0 e sz
  · have := hg i r hr; subst this; cases hp
  · rintro k ⟨i, r, p, hr, _, hp, rfl⟩
    have := hg i r hr; subst this; cases hp
end
end Go.Eng
namespace Go.Eng
open Go.RowKit
section
variable {P : Program} {n : Nat} {w0 : World} {ρ : Env} {H : List Chunk}

/-- What a result variable holds. -/
inductive ResV (P : Program) (ρ : Env) (H : List Chunk) : ResultVar → Value → Prop
  | tmp {t : Tmp} {v : Value} (h : look ρ t = some (.v v)) : ResV P ρ H (.tmp t) v
  | cell {a : Tmp} {t b T m : Nat} {l : List Value} (h : look ρ a = some (.v (.pointer (some ⟨b, 0, none⟩)))) (hh : Has H (own b T l)) (hl : l.length = m) (ht : aggT P t = some m) : ResV P ρ H (.cell a t) (.agg l.toArray)
  | one {a : Tmp} {t b T : Nat} {v : Value} (h : look ρ a = some (.v (.pointer (some ⟨b, 0, none⟩)))) (hh : Has H (own b T [v])) (ht : oneT P t = true) : ResV P ρ H (.cell a t) v

def rvOf (tmps : Array Value) : ResultVar → Sem Value
  | .tmp t => pure (tmps.getD t undef)
  | .cell a t => do loadVar t (← asAddr (tmps.getD a undef))

theorem ResV.run {r : ResultVar} {v : Value} {w : World} {a : Act} (h : ResV P ρ H r v) (hm : Mem w0 H w) (ho : Ok n ρ a) : (rvOf a.tmps r).run P w = .ok v w := by
  cases h with
  | @tmp t v h =>
    have := Gets.eval (x := .tmp t) (.plain h) ho rfl
    simp only [Act.eval] at this
    show Result.ok _ w = _
    rw [this]
  | @cell a' t b T m l h hh hl ht =>
    have := Gets.eval (x := .tmp a') (.plain h) ho rfl
    simp only [Act.eval] at this
    show (asAddr (a.tmps.getD a' undef) >>= fun p => loadVar t p).run P w = _
    rw [this]
    show (loadVar t ⟨b, 0, none⟩).run P w = _
    refine run_loadVar_agg ht hl fun j v hv => ?_
    have := own_cell (hh.φ hm) hv
    by_cases h0 : j = 0
    · subst h0; exact this
    · simp only [Addr.add, h0, if_false, Nat.zero_add]; exact this
  | @one a' t b T v h hh ht =>
    have := Gets.eval (x := .tmp a') (.plain h) ho rfl
    simp only [Act.eval] at this
    show (asAddr (a.tmps.getD a' undef) >>= fun p => loadVar t p).run P w = _
    rw [this]
    exact run_loadVar_one ht (own_cell (hh.φ hm) rfl)

theorem run_results1 {fn : Func} {r : ResultVar} {tmps : Array Value} {v : Value} {w : World} (h : fn.results = #[r]) (h1 : (rvOf tmps r).run P w = .ok v w) : (results fn tmps).run P w = .ok v w := by
  have e : results fn tmps = (rvOf tmps r >>= fun v => pure v) := by
    unfold results
    rw [h]
    cases r <;> simp [rvOf]
  rw [e, run_bind_ok h1]
  rfl
theorem run_results2 {fn : Func} {r1 r2 : ResultVar} {tmps : Array Value} {v1 v2 : Value} {w : World} (h : fn.results = #[r1, r2]) (h1 : (rvOf tmps r1).run P w = .ok v1 w) (h2 : (rvOf tmps r2).run P w = .ok v2 w) :
    (results fn tmps).run P w = .ok (.tuple #[v1, v2]) w := by
  have e : results fn tmps = (rvOf tmps r1 >>= fun v1 => rvOf tmps r2 >>= fun v2 => pure (.tuple #[v1, v2])) := by
    unfold results
    rw [h]
    cases r1 <;> cases r2 <;> simp [rvOf]
  rw [e, run_bind_ok h1, run_bind_ok h2]
  rfl
theorem run_results3 {fn : Func} {r1 r2 r3 : ResultVar} {tmps : Array Value} {v1 v2 v3 : Value} {w : World} (h : fn.results = #[r1, r2, r3]) (h1 : (rvOf tmps r1).run P w = .ok v1 w) (h2 : (rvOf tmps r2).run P w = .ok v2 w)
    (h3 : (rvOf tmps r3).run P w = .ok v3 w) : (results fn tmps).run P w = .ok (.tuple #[v1, v2, v3]) w := by
  have e : results fn tmps = (rvOf tmps r1 >>= fun v1 => rvOf tmps r2 >>= fun v2 => rvOf tmps r3 >>= fun v3 => pure (.tuple #[v1, v2, v3])) := by
    unfold results
    rw [h]
    cases r1 <;> cases r2 <;> cases r3 <;> simp [rvOf]
  rw [e, run_bind_ok h1, run_bind_ok h2, run_bind_ok h3]
  rfl

variable {fn : Func} {R : Ending → World → Prop}
theorem kw_retc1 {r : ResultVar} {v : Value} (h : ∀ w, Mem w0 H w → R (.returned v) w) (hr : fn.results = #[r] := by rfl)
    (hv : ResV P ρ H r v := by first | exact .tmp rfl | exact .cell rfl (by repeat (first | exact Has.head | apply Has.tail)) rfl (by kernel_rfl)) : KW n w0 (fun a w => bodyPost P fn R .ret a w) ρ H := fun w _ hm ho => ⟨ho.nodef, v, run_results1 hr (hv.run hm ho), h w hm⟩
theorem kw_retc2 {r1 r2 : ResultVar} {v1 v2 : Value} (h : ∀ w, Mem w0 H w → R (.returned (.tuple #[v1, v2])) w)
    (hr : fn.results = #[r1, r2] := by rfl)
    (hv1 : ResV P ρ H r1 v1 := by first | exact .tmp rfl | exact .cell rfl (by repeat (first | exact Has.head | apply Has.tail)) rfl (by kernel_rfl))
    (hv2 : ResV P ρ H r2 v2 := by first | exact .tmp rfl | exact .cell rfl (by repeat (first | exact Has.head | apply Has.tail)) rfl (by kernel_rfl)) :
    KW n w0 (fun a w => bodyPost P fn R .ret a w) ρ H := fun w _ hm ho => ⟨ho.nodef, .tuple #[v1, v2], run_results2 hr (hv1.run hm ho) (hv2.run hm ho), h w hm⟩
theorem kw_retc3 {r1 r2 r3 : ResultVar} {v1 v2 v3 : Value} (h : ∀ w, Mem w0 H w → R (.returned (.tuple #[v1, v2, v3])) w)
    (hr : fn.results = #[r1, r2, r3] := by rfl)
    (hv1 : ResV P ρ H r1 v1 := by first | exact .tmp rfl | exact .cell rfl (by repeat (first | exact Has.head | apply Has.tail)) rfl (by kernel_rfl))
    (hv2 : ResV P ρ H r2 v2 := by first | exact .tmp rfl | exact .cell rfl (by repeat (first | exact Has.head | apply Has.tail)) rfl (by kernel_rfl))
    (hv3 : ResV P ρ H r3 v3 := by first | exact .tmp rfl | exact .cell rfl (by repeat (first | exact Has.head | apply Has.tail)) rfl (by kernel_rfl)) :
    KW n w0 (fun a w => bodyPost P fn R .ret a w) ρ H := fun w _ hm ho => ⟨ho.nodef, .tuple #[v1, v2, v3], run_results3 hr (hv1.run hm ho) (hv2.run hm ho) (hv3.run hm ho), h w hm⟩
end
end Go.Eng
namespace Go.Eng
/-- One chunk is brought to the front. -/
inductive Sel : List Chunk → Chunk → List Chunk → Prop
  | head {c : Chunk} {H : List Chunk} : Sel (c :: H) c H
  | tail {c d : Chunk} {H H' : List Chunk} : Sel H c H' → Sel (d :: H) c (d :: H')
theorem Sel.perm {H H' : List Chunk} {c : Chunk} (h : Sel H c H') : H.Perm (c :: H') := by
  induction h with
  | head => exact .refl _
  | tail _ ih => exact (List.Perm.cons _ ih).trans (.swap _ _ _)
theorem Mem.front {w0 w : World} {H H' : List Chunk} {c : Chunk} (hm : Mem w0 H w) (h : Sel H c H') : Mem w0 (c :: H') w := hm.perm h.perm
end Go.Eng

/- Engine of the decompiler, part 7: cuts of slices, results, regions in whatever order whose last operation writes, equality of structs. -/
import Derived.Test.YtnihhidbiepnhaaD6
import Derived.StillTail
import Derived.Laws.StructEq
namespace Go.Dc
open Go.RowKit GoRep

section
variable {P : Program} {n : Nat} {κ : Ctx} {ρ : Env} {H : List Chunk} {g : Bool} {C : Env → List Chunk → Prop}

/-- xs[lo:hi]; none where Go would panic, or where hi lies behind the slice's length. -/
def sub {α : Type} (xs : List α) (lo hi : Int) : Option (List α) := if 0 ≤ lo ∧ lo ≤ hi ∧ hi ≤ xs.length then some ((xs.take hi.toNat).drop lo.toNat) else none
theorem sub_some {α : Type} {xs ys : List α} {lo hi : Int} (h : sub xs lo hi = some ys) : 0 ≤ lo ∧ lo ≤ hi ∧ hi ≤ xs.length ∧ ys = (xs.take hi.toNat).drop lo.toNat ∧ ys.length = hi.toNat - lo.toNat := by
  unfold sub at h
  split at h
  · rename_i hb
    simp at h
    subst h
    refine ⟨hb.1, hb.2.1, hb.2.2, rfl, ?_⟩
    rw [List.length_drop, List.length_take]; omega
  · cases h
theorem sub_get {α : Type} {xs ys : List α} {lo hi : Int} (h : sub xs lo hi = some ys) {i : Nat} {x : α} (hx : ys[i]? = some x) : xs[lo.toNat + i]? = some x := by
  obtain ⟨_, _, _, rfl, _⟩ := sub_some h
  rw [List.getElem?_drop, List.getElem?_take] at hx
  split at hx
  · exact hx
  · cases hx

def SR.sub {ρ : Type} (r : SR ρ) (lo sz : Nat) : SR ρ := ⟨if r.cap = lo then r.a else r.a.map (·.add (lo * sz)), r.cap - lo, fun i => r.es (lo + i)⟩

theorem run_sub {α : Type} [GoRep α] {t sz : Nat} {w : World} {r : SR (R α)} {xs ys : List α} {ol oh : Option (IntKind × Int)} (hs : sub xs (oval ol 0) (oval oh xs.length) = some ys) (hcap : xs.length ≤ r.cap) (hsz : elemSize P t = some sz) :
    (Instr.sliceAt t (.slice r.a xs.length r.cap) (ol.map (fun p => Value.int p.1 p.2)) (oh.map (fun p => Value.int p.1 p.2)) none).run P w = .ok (.slice (r.sub (oval ol 0).toNat sz).a ys.length (r.sub (oval ol 0).toNat sz).cap) w := by
  obtain ⟨h1, h2, h3, _, h5⟩ := sub_some hs
  unfold elemSize at hsz
  split at hsz
  · rename_i el hu
    cases hti : P.info? el with
    | none => rw [hti] at hsz; cases hsz
    | some ti =>
      rw [hti] at hsz
      simp at hsz
      subst hsz
      unfold Instr.sliceAt
      rw [run_bind_ok (run_under hu w)]
      show (Instr.slice t (.slice r.a xs.length r.cap) _ _ none).run P w = _
      unfold Instr.slice
      rw [run_bind_ok (run_under hu w)]
      show (Instr.sliceBounds true xs.length r.cap _ _ none >>= _).run P w = _
      rw [run_bind_ok (run_bounds ⟨h1, h2, by omega⟩)]
      show (sizeOf el >>= _).run P w = _
      rw [run_bind_ok (run_size hti w), h5]
      rfl
  · cases hsz

theorem SlOk.sub {α : Type} [GoRep α] {S : Soup} {w : World} {r : SR (R α)} {xs ys : List α} {lo hi : Int} (h : SlOk S w r xs) (hs : Dc.sub xs lo hi = some ys) : SlOk S w (r.sub lo.toNat (GoRep.n α)) ys := by
  obtain ⟨h1, h2, h3, _, h5⟩ := sub_some hs
  refine ⟨by show ys.length ≤ r.cap - lo.toNat; have := h.1; omega, ?_, fun i x hx => ?_⟩
  · exact Nat.le_trans (Nat.mul_le_mul_right _ (by omega)) h.2.1
  · have hx' := sub_get hs hx
    obtain ⟨g1, g2, g3, g4⟩ := h.2.2 _ x hx'
    have hi := (List.getElem?_eq_some_iff.1 hx).1
    have hne : r.cap ≠ lo.toNat := by have := h.1; omega
    have ha : (r.sub lo.toNat (GoRep.n α)).a = some ⟨sb r.a, so r.a + lo.toNat * GoRep.n α, none⟩ := by
      show (if r.cap = lo.toNat then r.a else r.a.map (·.add (lo.toNat * GoRep.n α))) = _
      rw [if_neg hne, g1]
      simp [Addr.add_lit, sb, so]
    rw [ha]
    refine ⟨rfl, g2, fun j v hv => ?_, g4⟩
    have := g3 j v hv
    show w.cell? ⟨sb r.a, so r.a + lo.toNat * GoRep.n α + (i * GoRep.n α + j), none⟩ = some v
    rw [show so r.a + lo.toNat * GoRep.n α + (i * GoRep.n α + j) = so r.a + ((lo.toNat + i) * GoRep.n α + j) by rw [Nat.add_mul]; omega]
    exact this

/-- A part of immutable data. -/
theorem st_sub {α : Type} [GoRep α] {x : Operand} {lo hi : Option Operand} {t d m : Nat} {ty : TypeId} {pos : String} {aft : Array Edge} {gd : Option (Nat × Bool)} {r : SR (R α)} {xs ys : List α} {ol oh : Option (IntKind × Int)}
    (hh : ∀ S w, MemS S κ H w → SlOk S w r xs) (hq : sub xs (oval ol 0) (oval oh xs.length) = some ys)
    (k : ∀ r' : SR (R α), C ((d, .v (.slice r'.a ys.length r'.cap)) :: ρ) (imm (α := List α) r' ys :: H))
    (hx : Gets ρ true x (.slice r.a m r.cap) := by first | exact .plain rfl | exact .cond rfl id | exact .cond rfl gl)
    (hm1 : m = xs.length := by first | rfl | simp only [List.length_set, List.length_append, List.length_replicate])
    (hlo : GetsO ρ true lo ol := by first | exact .none | exact .some (.plain rfl) | exact .some (.cond rfl id) | exact .some (.cond rfl gl))
    (hhi : GetsO ρ true hi oh := by first | exact .none | exact .some (.plain rfl) | exact .some (.cond rfl id) | exact .some (.cond rfl gl))
    (hd : Nat.blt d n = true := by rfl) (hsz : elemSize P t = some (GoRep.n α) := by kernel_rfl) :
    StepO P n κ ⟨some d, .slice t x lo hi none, ty, pos, aft, gd⟩ ρ H C := by
  subst hm1
  intro K Q hs w act hm ho
  have hm' := hm
  obtain ⟨S, hms⟩ := hm'
  have hok : SlOk S w r xs := hh S w hms
  have hrun : (execOp act.eval ⟨some d, .slice t x lo hi none, ty, pos, aft, gd⟩).run P w = .ok (.value (.slice (r.sub (oval ol 0).toNat (GoRep.n α)).a ys.length (r.sub (oval ol 0).toNat (GoRep.n α)).cap)) w := by
    show (Instr.sliceAt t (act.eval x) (lo.map act.eval) (hi.map act.eval) none >>= fun v => pure (Next.value v)).run P w = _
    rw [hx.eval ho rfl, hlo.eval ho rfl, hhi.eval ho rfl]
    exact run_value (run_sub hq hok.1 hsz)
  unfold Oper.wp
  rw [hrun]
  refine hs _ _ (k _) w _ (hm.immAdd fun S' hm' => ?_) (ho.put (by simpa [Nat.blt_eq] using hd) rfl)
  exact SlOk.sub (hh S' w hm') hq

/-- A part of a slice of the call's own, in its place. -/
theorem st_subrow {α : Type} [GoRep α] {x : Operand} {lo hi : Option Operand} {t d m e : Nat} {ty : TypeId} {pos : String} {aft : Array Edge} {gd : Option (Nat × Bool)} {r : SR (R α)} {xs ys : List α} {ol oh : Option (IntKind × Int)} {H' : SR (R α) → List Chunk}
    (hu : ∀ r', Upd H (trow e r xs) (trow e r' ys) (H' r')) (hq : sub xs (oval ol 0) (oval oh xs.length) = some ys)
    (k : ∀ r' : SR (R α), C ((d, .v (.slice r'.a ys.length r'.cap)) :: ρ) (H' r'))
    (hx : Gets ρ true x (.slice r.a m r.cap) := by first | exact .plain rfl | exact .cond rfl id | exact .cond rfl gl)
    (hm1 : m = xs.length := by first | rfl | simp only [List.length_set, List.length_append, List.length_replicate])
    (hlo : GetsO ρ true lo ol := by first | exact .none | exact .some (.plain rfl) | exact .some (.cond rfl id) | exact .some (.cond rfl gl))
    (hhi : GetsO ρ true hi oh := by first | exact .none | exact .some (.plain rfl) | exact .some (.cond rfl id) | exact .some (.cond rfl gl))
    (hd : Nat.blt d n = true := by rfl) (hsz : elemSize P t = some (GoRep.n α) := by kernel_rfl) :
    StepO P n κ ⟨some d, .slice t x lo hi none, ty, pos, aft, gd⟩ ρ H C := by
  subst hm1
  intro K Q hs w act hm ho
  obtain ⟨S, hms⟩ := hm
  have hφ := (hu r).has.φ hms
  have hin := (hms.all _ (hu r).has.mem).2
  have hok := trow_slOk hφ
  have hrun : (execOp act.eval ⟨some d, .slice t x lo hi none, ty, pos, aft, gd⟩).run P w = .ok (.value (.slice (r.sub (oval ol 0).toNat (GoRep.n α)).a ys.length (r.sub (oval ol 0).toNat (GoRep.n α)).cap)) w := by
    show (Instr.sliceAt t (act.eval x) (lo.map act.eval) (hi.map act.eval) none >>= fun v => pure (Next.value v)).run P w = _
    rw [hx.eval ho rfl, hlo.eval ho rfl, hhi.eval ho rfl]
    exact run_value (run_sub hq hok.1 hsz)
  unfold Oper.wp
  rw [hrun]
  obtain ⟨h1, h2, h3, _, h5⟩ := sub_some hq
  have hblk : ∀ p, (r.sub (oval ol 0).toNat (GoRep.n α)).a = some p → (trow e r xs).fp p.block := by
    intro p hp
    change (if r.cap = (oval ol 0).toNat then r.a else r.a.map (·.add ((oval ol 0).toNat * GoRep.n α))) = some p at hp
    split at hp
    · exact ⟨p, hp, rfl⟩
    · cases hra : r.a with
      | none => rw [hra] at hp; cases hp
      | some q =>
        rw [hra] at hp
        simp at hp
        refine ⟨q, hra, ?_⟩
        rw [← hp]
        unfold Addr.add
        split <;> rfl
  refine hs _ _ (k (r.sub (oval ol 0).toNat (GoRep.n α))) w _ ⟨S, hms.upd (hu _) (Frame.refl _ w) (fun _ h => h) (fun _ h => .inl h) hms.lt ?_ ?_⟩ (ho.put (by simpa [Nat.blt_eq] using hd) rfl)
  · refine ⟨Nat.le_trans (Nat.mul_le_mul_right _ (by omega)) hφ.1, ?_⟩
    rcases hφ.2 with ⟨ha, hx0, hc0⟩ | ⟨gb, o, cur, ha, hgb, g3, g4, g5⟩
    · subst hx0
      have h3' : oval oh (([] : List α).length : Nat) ≤ 0 := h3
      have hlo0 : (oval ol 0).toNat = 0 := by omega
      refine .inl ⟨?_, List.length_eq_zero_iff.1 (by omega), ?_⟩
      · show (if r.cap = (oval ol 0).toNat then r.a else r.a.map (·.add ((oval ol 0).toNat * GoRep.n α))) = _
        rw [hc0, hlo0, if_pos rfl, ha]
      · show r.cap - _ = 0
        rw [hc0]; omega
    · by_cases hce : r.cap = (oval ol 0).toNat
      · refine .inr ⟨gb, o, cur, ?_, hgb, by show ys.length ≤ r.cap - _; omega, by show o + (r.cap - _) * _ ≤ _; rw [hce, Nat.sub_self, Nat.zero_mul]; omega, fun i x hx => ?_⟩
        · show (if r.cap = (oval ol 0).toNat then r.a else r.a.map (·.add ((oval ol 0).toNat * GoRep.n α))) = _
          rw [if_pos hce, ha]
        · have := (List.getElem?_eq_some_iff.1 hx).1; omega
      · refine .inr ⟨gb, o + (oval ol 0).toNat * GoRep.n α, cur, ?_, hgb, by show ys.length ≤ r.cap - _; omega, ?_, fun i x hx => ?_⟩
        · show (if r.cap = (oval ol 0).toNat then r.a else r.a.map (·.add ((oval ol 0).toNat * GoRep.n α))) = _
          rw [if_neg hce, ha]
          simp [Addr.add_lit]
        · show o + _ + (r.cap - (oval ol 0).toNat) * GoRep.n α ≤ _
          rw [Nat.add_assoc, ← Nat.add_mul]
          have : (oval ol 0).toNat + (r.cap - (oval ol 0).toNat) = r.cap := by omega
          rw [this]; exact g4
        · obtain ⟨g6, g7⟩ := g5 _ x (sub_get hq hx)
          refine ⟨fun j v hv => ?_, g7⟩
          have := g6 j v hv
          rw [show o + (oval ol 0).toNat * GoRep.n α + (i * GoRep.n α + j) = o + (((oval ol 0).toNat + i) * GoRep.n α + j) by rw [Nat.add_mul]; omega]
          exact this
  · rintro kk ⟨p, hp, rfl⟩
    have := hblk p hp
    exact ⟨.inl this, (hin _ this).1, (hin _ this).2.1⟩
end

section
variable {P : Program} {n : Nat} {κ : Ctx} {ρ : Env} {H : List Chunk}
/-- What a result variable holds. -/
inductive ResV (P : Program) (ρ : Env) (H : List Chunk) : ResultVar → Value → Prop
  | tmp {t : Tmp} {v : Value} (h : look ρ t = some (.v v)) : ResV P ρ H (.tmp t) v
  | cell {a : Tmp} {t b T m : Nat} {l : List Value} (h : look ρ a = some (.v (.pointer (some ⟨b, 0, none⟩)))) (hh : Has H (own b T l)) (hl : l.length = m) (ht : aggT P t = some m) : ResV P ρ H (.cell a t) (.agg l.toArray)
  | one {a : Tmp} {t b T : Nat} {v : Value} (h : look ρ a = some (.v (.pointer (some ⟨b, 0, none⟩)))) (hh : Has H (own b T [v])) (ht : oneT P t = true) : ResV P ρ H (.cell a t) v

def rvOf (tmps : Array Value) : ResultVar → Sem Value
  | .tmp t => pure (tmps.getD t undef)
  | .cell a t => do loadVar t (← asAddr (tmps.getD a undef))

theorem ResV.run {r : ResultVar} {v : Value} {w : World} {a : Act} (h : ResV P ρ H r v) (hm : Mem κ H w) (ho : Ok n ρ a) : (rvOf a.tmps r).run P w = .ok v w := by
  cases h with
  | @tmp t v h =>
    have := Gets.eval (x := .tmp t) (.plain h) ho rfl
    simp only [Act.eval] at this
    show Result.ok _ w = _
    rw [this]
  | @cell a' t b T m l h hh hl ht =>
    have := Gets.eval (x := .tmp a') (.plain h) ho rfl
    simp only [Act.eval] at this
    show (asAddr (a.tmps.getD a' undef) >>= fun p => loadVar t p).run P w = _
    rw [this]
    show (loadVar t ⟨b, 0, none⟩).run P w = _
    refine run_loadVar_agg ht hl fun j v hv => ?_
    have := own_cell (hh.own hm) hv
    by_cases h0 : j = 0
    · subst h0; exact this
    · simp only [Addr.add, h0, if_false, Nat.zero_add]; exact this
  | @one a' t b T v h hh ht =>
    have := Gets.eval (x := .tmp a') (.plain h) ho rfl
    simp only [Act.eval] at this
    show (asAddr (a.tmps.getD a' undef) >>= fun p => loadVar t p).run P w = _
    rw [this]
    exact run_loadVar_one ht (own_cell (hh.own hm) rfl)

theorem run_results1 {fn : Func} {r : ResultVar} {tmps : Array Value} {v : Value} {w : World} (h : fn.results = #[r]) (h1 : (rvOf tmps r).run P w = .ok v w) : (results fn tmps).run P w = .ok v w := by
  have e : results fn tmps = (rvOf tmps r >>= fun v => pure v) := by
    unfold results
    rw [h]
    cases r <;> simp [rvOf]
  rw [e, run_bind_ok h1]
  rfl
theorem run_results2 {fn : Func} {r1 r2 : ResultVar} {tmps : Array Value} {v1 v2 : Value} {w : World} (h : fn.results = #[r1, r2]) (h1 : (rvOf tmps r1).run P w = .ok v1 w) (h2 : (rvOf tmps r2).run P w = .ok v2 w) :
    (results fn tmps).run P w = .ok (.tuple #[v1, v2]) w := by
  have e : results fn tmps = (rvOf tmps r1 >>= fun v1 => rvOf tmps r2 >>= fun v2 => pure (.tuple #[v1, v2])) := by
    unfold results
    rw [h]
    cases r1 <;> cases r2 <;> simp [rvOf]
  rw [e, run_bind_ok h1, run_bind_ok h2]
  rfl
theorem run_results3 {fn : Func} {r1 r2 r3 : ResultVar} {tmps : Array Value} {v1 v2 v3 : Value} {w : World} (h : fn.results = #[r1, r2, r3]) (h1 : (rvOf tmps r1).run P w = .ok v1 w) (h2 : (rvOf tmps r2).run P w = .ok v2 w)
    (h3 : (rvOf tmps r3).run P w = .ok v3 w) : (results fn tmps).run P w = .ok (.tuple #[v1, v2, v3]) w := by
  have e : results fn tmps = (rvOf tmps r1 >>= fun v1 => rvOf tmps r2 >>= fun v2 => rvOf tmps r3 >>= fun v3 => pure (.tuple #[v1, v2, v3])) := by
    unfold results
    rw [h]
    cases r1 <;> cases r2 <;> cases r3 <;> simp [rvOf]
  rw [e, run_bind_ok h1, run_bind_ok h2, run_bind_ok h3]
  rfl

variable {fn : Func} {R : Ending → World → Prop}
theorem kw_retc1 {r : ResultVar} {v : Value} (h : ∀ w, Mem κ H w → R (.returned v) w) (hr : fn.results = #[r] := by rfl)
    (hv : ResV P ρ H r v := by first | exact .tmp rfl | exact .cell rfl (by repeat (first | exact Has.head | apply Has.tail)) rfl (by kernel_rfl)) : KW n κ (fun a w => bodyPost P fn R .ret a w) ρ H := fun w _ hm ho => ⟨ho.nodef, v, run_results1 hr (hv.run hm ho), h w hm⟩
theorem kw_retc2 {r1 r2 : ResultVar} {v1 v2 : Value} (h : ∀ w, Mem κ H w → R (.returned (.tuple #[v1, v2])) w)
    (hr : fn.results = #[r1, r2] := by rfl)
    (hv1 : ResV P ρ H r1 v1 := by first | exact .tmp rfl | exact .cell rfl (by repeat (first | exact Has.head | apply Has.tail)) rfl (by kernel_rfl))
    (hv2 : ResV P ρ H r2 v2 := by first | exact .tmp rfl | exact .cell rfl (by repeat (first | exact Has.head | apply Has.tail)) rfl (by kernel_rfl)) :
    KW n κ (fun a w => bodyPost P fn R .ret a w) ρ H := fun w _ hm ho => ⟨ho.nodef, .tuple #[v1, v2], run_results2 hr (hv1.run hm ho) (hv2.run hm ho), h w hm⟩
theorem kw_retc3 {r1 r2 r3 : ResultVar} {v1 v2 v3 : Value} (h : ∀ w, Mem κ H w → R (.returned (.tuple #[v1, v2, v3])) w)
    (hr : fn.results = #[r1, r2, r3] := by rfl)
    (hv1 : ResV P ρ H r1 v1 := by first | exact .tmp rfl | exact .cell rfl (by repeat (first | exact Has.head | apply Has.tail)) rfl (by kernel_rfl))
    (hv2 : ResV P ρ H r2 v2 := by first | exact .tmp rfl | exact .cell rfl (by repeat (first | exact Has.head | apply Has.tail)) rfl (by kernel_rfl))
    (hv3 : ResV P ρ H r3 v3 := by first | exact .tmp rfl | exact .cell rfl (by repeat (first | exact Has.head | apply Has.tail)) rfl (by kernel_rfl)) :
    KW n κ (fun a w => bodyPost P fn R .ret a w) ρ H := fun w _ hm ho => ⟨ho.nodef, .tuple #[v1, v2, v3], run_results3 hr (hv1.run hm ho) (hv2.run hm ho) (hv3.run hm ho), h w hm⟩

theorem run_results4 {fn : Func} {r1 r2 r3 r4 : ResultVar} {tmps : Array Value} {v1 v2 v3 v4 : Value} {w : World} (h : fn.results = #[r1, r2, r3, r4]) (h1 : (rvOf tmps r1).run P w = .ok v1 w) (h2 : (rvOf tmps r2).run P w = .ok v2 w)
    (h3 : (rvOf tmps r3).run P w = .ok v3 w) (h4 : (rvOf tmps r4).run P w = .ok v4 w) : (results fn tmps).run P w = .ok (.tuple #[v1, v2, v3, v4]) w := by
  have e : results fn tmps = (rvOf tmps r1 >>= fun v1 => rvOf tmps r2 >>= fun v2 => rvOf tmps r3 >>= fun v3 => rvOf tmps r4 >>= fun v4 => pure (.tuple #[v1, v2, v3, v4])) := by
    unfold results
    rw [h]
    cases r1 <;> cases r2 <;> cases r3 <;> cases r4 <;> simp [rvOf]
  rw [e, run_bind_ok h1, run_bind_ok h2, run_bind_ok h3, run_bind_ok h4]
  rfl
theorem kw_retc4 {r1 r2 r3 r4 : ResultVar} {v1 v2 v3 v4 : Value} (h : ∀ w, Mem κ H w → R (.returned (.tuple #[v1, v2, v3, v4])) w)
    (hr : fn.results = #[r1, r2, r3, r4] := by rfl)
    (hv1 : ResV P ρ H r1 v1 := by first | exact .tmp rfl | exact .cell rfl (by repeat (first | exact Has.head | apply Has.tail)) rfl (by kernel_rfl))
    (hv2 : ResV P ρ H r2 v2 := by first | exact .tmp rfl | exact .cell rfl (by repeat (first | exact Has.head | apply Has.tail)) rfl (by kernel_rfl))
    (hv3 : ResV P ρ H r3 v3 := by first | exact .tmp rfl | exact .cell rfl (by repeat (first | exact Has.head | apply Has.tail)) rfl (by kernel_rfl))
    (hv4 : ResV P ρ H r4 v4 := by first | exact .tmp rfl | exact .cell rfl (by repeat (first | exact Has.head | apply Has.tail)) rfl (by kernel_rfl)) :
    KW n κ (fun a w => bodyPost P fn R .ret a w) ρ H := fun w _ hm ho => ⟨ho.nodef, .tuple #[v1, v2, v3, v4], run_results4 hr (hv1.run hm ho) (hv2.run hm ho) (hv3.run hm ho) (hv4.run hm ho), h w hm⟩
end

section
variable {P : Program} {ops : Array Oper} {Q : Exit → Act → World → Prop} {md : Region.Mode} {S : World → Prop}

/-- Whatever order is picked, and S holds behind every operation but number z. -/
def wpAnyZ (P : Program) (md : Region.Mode) (ops : Array Oper) (Q : Exit → Act → World → Prop) (S : World → Prop) (z : Nat) : Nat → Array Bool → Act → World → Prop
  | 0, listed, a, w => Region.ready md ops listed = [] ∧ Q .normal a w
  | fuel + 1, listed, a, w =>
    (Region.ready md ops listed = [] → Q .normal a w) ∧
    ∀ i ∈ Region.ready md ops listed, wpOp P ops Q i (fun a' w' => (i ≠ z → S w') ∧ wpAnyZ P md ops Q S z fuel (listed.setIfInBounds i true) a' w') a w

theorem wpAny_of_Z {z : Nat} : ∀ (fuel : Nat) (listed : Array Bool) (a : Act) (w : World), wpAnyZ P md ops Q S z fuel listed a w → wpAny P md ops Q fuel listed a w
  | 0, _, _, _, h => h
  | fuel + 1, _, _, _, h => ⟨h.1, fun i hi => wpOp_mono (fun a' w' h' => wpAny_of_Z fuel _ a' w' h'.2) (h.2 i hi)⟩

theorem wpAnyZ_first {z i : Nat} {oi : Oper} {v : Value} (hi : ops[i]? = some oi) (hsel : ∀ (j : Nat) (o : Oper) cs b, ops[j]? = some o → o.op ≠ .select cs b)
    (hQ : ∀ c a w, Q (.panic c) (a.put oi.dst v) w → Q (.panic c) a w) (hs : Region.sinkB md ops z = true) (hc : Region.chainB md ops z = true) (hz : z < ops.size) (hiz : i < z) :
    ∀ (fuel : Nat) (listed : Array Bool) (a : Act) (w : World), HeadInv md ops z listed →
      (∀ j oj, ops[j]? = some oj → j ≠ i → listed.getD j true = false → (∀ e ∈ oj.after, Region.binds md e = true → e.on ≠ i) → oi.apart ops oj = true) →
      i ∈ Region.ready md ops listed → YieldsIf P ops S oi v a → S w →
      wpAnyZ P md ops Q S z fuel (listed.setIfInBounds i true) (a.put oi.dst v) w → wpAnyZ P md ops Q S z (fuel + 1) listed a w := by
  intro fuel
  induction fuel with
  | zero =>
    intro listed a w _ _ hr hy hS H
    refine ⟨fun h => (by rw [h] at hr; cases hr), fun j hj => ?_⟩
    by_cases hji : j = i
    · subst hji; exact hy.wpOp hi hS ⟨fun _ => hS, H⟩
    · have := ready_mono hj hji
      rw [H.1] at this
      cases this
  | succ fuel ih =>
    intro listed a w inv hfree hr hy hS H
    have hun := (mem_ready.1 hr).1
    refine ⟨fun h => (by rw [h] at hr; cases hr), fun j hj => ?_⟩
    by_cases hji : j = i
    · subst hji; exact hy.wpOp hi hS ⟨fun _ => hS, H⟩
    · have h1 := H.2 j (ready_mono hj hji)
      obtain ⟨hjun, oj, hoj, hall⟩ := mem_ready.1 hj
      have hjsz : j < ops.size := (Array.getElem?_eq_some_iff.1 hoj).1
      have hjz : j < z := by
        rcases Nat.lt_or_ge j z with h | h
        · exact h
        · exact absurd hj (tail_waits hs hc hz inv _ i rfl hiz hun j h)
      have hnot : ∀ e ∈ oj.after, Region.binds md e = true → e.on ≠ i := fun e he hb heq => by
        have h1 := hall e he hb
        rw [heq, getD_both hun] at h1
        cases h1
      have h2 := wpOp_putIf hoj (hfree j oj hoj hji hjun hnot) (fun cs b => hsel i oi cs b hi) (fun cs b => hsel j oj cs b hoj) hQ hy h1
      have hfree' : ∀ k ok, ops[k]? = some ok → k ≠ i → (listed.setIfInBounds j true).getD k true = false →
          (∀ e ∈ ok.after, Region.binds md e = true → e.on ≠ i) → oi.apart ops ok = true := fun k ok hk hki hun hno => by
        refine hfree k ok hk hki ?_ hno
        by_cases hjk : j = k
        · subst hjk; exact hjun
        · rw [getD_set_ne true hjk] at hun; exact hun
      refine wpOp_mono (fun a' w' h3 => ⟨h3.2.1, ih (listed.setIfInBounds j true) a' w' (inv.set hj hjz) hfree' (ready_mono hr (Ne.symm hji)) h3.1 (h3.2.1 (by omega)) ?_⟩) h2
      rw [Array.setIfInBounds_comm _ _ hji]
      exact h3.2.2

/-- HeadInv, reckoned. -/
def headB (md : Region.Mode) (ops : Array Oper) (z : Nat) (listed : Array Bool) : Bool :=
  listed.size == ops.size && (List.range ops.size).all (fun j => !listed.getD j false || (match ops[j]? with | some oj => oj.after.all (fun e => !Region.binds md e || listed.getD e.on false) | none => true)) &&
  (List.range ops.size).all (fun t => decide (t < z) || !listed.getD t true)

theorem headB_spec {z : Nat} {listed : Array Bool} (h : headB md ops z listed = true) : HeadInv md ops z listed := by
  unfold headB at h
  simp only [Bool.and_eq_true, beq_iff_eq, List.all_eq_true, List.mem_range, Bool.or_eq_true, Bool.not_eq_true', decide_eq_true_eq] at h
  obtain ⟨⟨h1, h2⟩, h3⟩ := h
  refine ⟨h1, fun j oj hj hl e he hb => ?_, fun t ht ht' => ?_⟩
  · have hlt : j < ops.size := (Array.getElem?_eq_some_iff.1 hj).1
    rcases h2 j hlt with h | h
    · rw [hl] at h; cases h
    · rw [hj] at h
      have := Array.all_eq_true_iff_forall_mem.1 h e he
      simpa [hb] using this
  · rcases h3 t ht' with h | h
    · omega
    · exact h
end

/-- A region in whatever order; z: its last operation, which waits for all others; Hs: the chunks that stay till then. -/
def AZ (P : Program) (n : Nat) (κ : Ctx) (ops : Array Oper) (K : Act → World → Prop) (Hs : List Chunk) (z fuel : Nat) (listed : Array Bool) (ρ : Env) (H : List Chunk) : Prop :=
  ∀ w a, Mem κ H w → Ok n ρ a → wpAnyZ P .any ops (fun e a w => e = .normal ∧ K a w) (fun w => Mem κ Hs w) z fuel listed a w

section
variable {P : Program} {n : Nat} {κ : Ctx} {ops : Array Oper} {Q : Exit → Act → World → Prop} {ρ : Env} {H : List Chunk} {K : Act → World → Prop} {Hs : List Chunk} {z fuel : Nat} {listed : Array Bool}

theorem az_imp {H' : List Chunk} (h : ∀ w, Mem κ H w → Mem κ H' w) (k : AZ P n κ ops K Hs z fuel listed ρ H') : AZ P n κ ops K Hs z fuel listed ρ H := fun w a hm ho => k w a (h w hm) ho
theorem az_have {p : Prop} (h : ∀ w, Mem κ H w → p) (k : p → AZ P n κ ops K Hs z fuel listed ρ H) : AZ P n κ ops K Hs z fuel listed ρ H := fun w a hm ho => k (h w hm) w a hm ho

theorem az_done (k : KW n κ K ρ H) (hr : Region.ready .any ops listed = [] := by kernel_rfl) : AZ P n κ ops K Hs z fuel listed ρ H := fun w a hm ho => by
  cases fuel with
  | zero => exact ⟨hr, rfl, k w a hm ho⟩
  | succ f => exact ⟨fun _ => ⟨rfl, k w a hm ho⟩, by rw [hr]; simp⟩

/-- The closed facts on the region's last operation. -/
def lastB (ops : Array Oper) (z : Nat) : Bool := Region.sinkB .any ops z && Region.chainB .any ops z && decide (z + 1 = ops.size) && Region.noSelect ops

theorem az_ev {op : Op} {v : Value} {d : Nat} {ty : TypeId} {pos : String} {aft : Array Edge} (i : Nat) (hi : ops[i]? = some ⟨some d, op, ty, pos, aft, none⟩)
    (h : Ev P n κ Hs ρ true op v) (k : AZ P n κ ops K Hs z fuel (listed.setIfInBounds i true) ((d, .v v) :: ρ) H)
    (hd : Nat.blt d n = true := by rfl) (h1 : lastB ops z = true := by kernel_rfl) (h0 : headB .any ops z listed = true := by kernel_rfl) (hiz : Nat.blt i z = true := by rfl)
    (h2 : Region.free .any ops listed i = true := by kernel_rfl) (h3 : (Region.ready .any ops listed).contains i = true := by kernel_rfl)
    (himp : ∀ w, Mem κ H w → Mem κ Hs w := by (intro w hm; exact hm.sub (by repeat (first | exact List.Sublist.refl _ | apply List.Sublist.cons_cons | apply List.Sublist.cons)))) : AZ P n κ ops K Hs z (fuel + 1) listed ρ H := by
  intro w a hm ho
  simp only [lastB, Bool.and_eq_true, decide_eq_true_eq] at h1
  refine wpAnyZ_first (v := v) hi (Region.noSelect_spec h1.2) (fun c a w h => by cases h.1) h1.1.1.1 h1.1.1.2 (by omega) (by simpa [Nat.blt_eq] using hiz) fuel listed a w (headB_spec h0) (Region.free_spec hi h2) (by simpa using h3) (.inl ⟨rfl, fun w' hS => ?_⟩) (himp w hm) ?_
  · exact h w' a _ _ _ _ _ hS ho rfl
  · exact k w _ hm (ho.put (by simpa [Nat.blt_eq] using hd) rfl)

theorem az_evg {op : Op} {v : Value} {d j : Nat} {want g : Bool} {ty : TypeId} {pos : String} {aft : Array Edge} (i : Nat) (hi : ops[i]? = some ⟨some d, op, ty, pos, aft, some (j, want)⟩)
    (hg : gof ops ρ j want = some g) (h : Ev P n κ Hs ρ g op v) (k : AZ P n κ ops K Hs z fuel (listed.setIfInBounds i true) ((d, .c g v) :: ρ) H)
    (hd : Nat.blt d n = true := by rfl) (h1 : lastB ops z = true := by kernel_rfl) (h0 : headB .any ops z listed = true := by kernel_rfl) (hiz : Nat.blt i z = true := by rfl)
    (h2 : Region.free .any ops listed i = true := by kernel_rfl) (h3 : (Region.ready .any ops listed).contains i = true := by kernel_rfl)
    (himp : ∀ w, Mem κ H w → Mem κ Hs w := by (intro w hm; exact hm.sub (by repeat (first | exact List.Sublist.refl _ | apply List.Sublist.cons_cons | apply List.Sublist.cons)))) : AZ P n κ ops K Hs z (fuel + 1) listed ρ H := by
  intro w a hm ho
  have hw := wanted_of (o := ⟨some d, op, ty, pos, aft, some (j, want)⟩) ho hg rfl
  simp only [lastB, Bool.and_eq_true, decide_eq_true_eq] at h1
  have hd' : d < n := by simpa [Nat.blt_eq] using hd
  cases g with
  | true =>
    refine wpAnyZ_first (v := v) hi (Region.noSelect_spec h1.2) (fun c a w h => by cases h.1) h1.1.1.1 h1.1.1.2 (by omega) (by simpa [Nat.blt_eq] using hiz) fuel listed a w (headB_spec h0) (Region.free_spec hi h2) (by simpa using h3) (.inl ⟨hw, fun w' hS => ?_⟩) (himp w hm) ?_
    · exact h w' a _ _ _ _ _ hS ho rfl
    · exact k w _ hm (ho.put hd' rfl)
  | false =>
    refine wpAnyZ_first (v := undef) hi (Region.noSelect_spec h1.2) (fun c a w h => by cases h.1) h1.1.1.1 h1.1.1.2 (by omega) (by simpa [Nat.blt_eq] using hiz) fuel listed a w (headB_spec h0) (Region.free_spec hi h2) (by simpa using h3) (.inr ⟨hw, rfl⟩) (himp w hm) ?_
    exact k w _ hm (ho.put hd' rfl)

/-- The one operation that may come up, before the last. -/
theorem az_one (i : Nat) {o : Oper} (hi : ops[i]? = some o) (h : StepO P n κ o ρ H (fun ρ' H' => (∀ w, Mem κ H' w → Mem κ Hs w) ∧ AZ P n κ ops K Hs z fuel (listed.setIfInBounds i true) ρ' H'))
    (hg : o.guard = none := by rfl) (hr : Region.ready .any ops listed = [i] := by kernel_rfl) : AZ P n κ ops K Hs z (fuel + 1) listed ρ H := by
  intro w a hm ho
  refine ⟨fun h => (by rw [hr] at h; cases h), fun j hj => ?_⟩
  rw [hr] at hj
  simp at hj; subst hj
  unfold wpOp
  simp only [hi, Region.wanted, hg, if_true]
  refine .inl (h _ _ ?_ w a hm ho)
  intro ρ' H' ⟨c1, c2⟩ w' a' hm' ho'
  exact ⟨fun _ => c1 w' hm', c2 w' a' hm' ho'⟩

/-- The last operation. -/
theorem az_last {o : Oper} (hi : ops[z]? = some o) (h : StepO P n κ o ρ H (AZ P n κ ops K Hs z fuel (listed.setIfInBounds z true)))
    (hg : o.guard = none := by rfl) (hr : Region.ready .any ops listed = [z] := by kernel_rfl) : AZ P n κ ops K Hs z (fuel + 1) listed ρ H := by
  intro w a hm ho
  refine ⟨fun h => (by rw [hr] at h; cases h), fun j hj => ?_⟩
  rw [hr] at hj
  simp at hj; subst hj
  unfold wpOp
  simp only [hi, Region.wanted, hg, if_true]
  refine .inl (h _ _ ?_ w a hm ho)
  intro ρ' H' c2 w' a' hm' ho'
  exact ⟨fun hne => absurd rfl hne, c2 w' a' hm' ho'⟩

theorem cw_region_z {id : Nat} {ops : Array Oper} (Hs : List Chunk) (z : Nat) (h : AZ P n κ ops (fun a w => Q .normal a w) Hs z ops.size (Array.replicate ops.size false) ρ H) (hm : P.follows .mixedOrders = true := by kernel_rfl) :
    CW P n κ (.region id ops true) Q ρ H := by
  intro w a hmm ho
  have := wp_region_any (id := id) (P := P) (Q := fun e a w => e = .normal ∧ Q .normal a w) hm (wpAny_of_Z _ _ _ _ (h _ a (hmm.drawn (w.drawn + 1)) ho))
  exact wp_mono this (fun e a w hq => by obtain ⟨rfl, hk⟩ := hq; exact hk)
end


/-- What a cell may hold. -/
inductive PK where
  | int (k : IntKind)
  | bool
  | string
def PK.fit : PK → Value → Bool
  | .int k, .int k' _ => k == k'
  | .bool, .bool _ => true
  | .string, .string _ => true
  | _, _ => false
def fit : List PK → List Value → Bool
  | [], [] => true
  | k :: ks, v :: vs => k.fit v && fit ks vs
  | _, _ => false
theorem fit_len : ∀ {ks : List PK} {vs : List Value}, fit ks vs = true → vs.length = ks.length
  | [], [], _ => rfl
  | _ :: ks, _ :: vs, h => by simp only [fit, Bool.and_eq_true] at h; simp [fit_len h.2]
  | [], _ :: _, h => by simp [fit] at h
  | _ :: _, [], h => by simp [fit] at h
theorem fit_append : ∀ {k1 k2 : List PK} {vs : List Value}, fit (k1 ++ k2) vs = true → fit k1 (vs.take k1.length) = true ∧ fit k2 (vs.drop k1.length) = true
  | [], k2, vs, h => by simpa [fit] using h
  | _ :: ks, k2, [], h => by simp [fit] at h
  | k :: ks, k2, v :: vs, h => by
    simp only [List.cons_append, fit, Bool.and_eq_true] at h
    have := fit_append h.2
    simp [fit, h.1, this.1, this.2]

section
variable {P : Program}
def flatF (rec : TypeId → Option (List PK)) : List Field → Nat → Option (List PK)
  | [], _ => some []
  | f :: fs, o => if (f.name != "_" && f.offset == o) = true then (match rec f.type with
    | some ks => (match flatF rec fs (o + ks.length) with | some r => some (ks ++ r) | none => none)
    | none => none) else none
def flat (P : Program) : Nat → TypeId → Option (List PK)
  | 0, _ => none
  | d + 1, t => match P.underlying t with
    | some (.int k) => some [.int k]
    | some .bool => some [.bool]
    | some .string => some [.string]
    | some (.struct fs) => if P.stoodInHeld t = true then none else (match flatF (flat P d) fs.toList 0 with
      | some ks => if P.cellsOf t = ks.length ∧ (P.info? t).isSome = true then some ks else none
      | none => none)
    | _ => none

def EqA (P : Program) (D : Nat) (t : TypeId) (ks : List PK) : Prop := ∀ (xs ys : Array Value) (o : Nat) (w : World), fit ks ((xs.toList.drop o).take ks.length) = true → fit ks ((ys.toList.drop o).take ks.length) = true →
  ∃ a b r, (part t xs o).run P w = .ok a w ∧ (part t ys o).run P w = .ok b w ∧ (Op.equalIn D t a b).run P w = .ok r w ∧ (r = true ↔ (xs.toList.drop o).take ks.length = (ys.toList.drop o).take ks.length)

theorem eqFields_flat {D : Nat} {rec : TypeId → Option (List PK)} (IH : ∀ t ks, rec t = some ks → EqA P D t ks) (xs ys : Array Value) (w : World) :
    ∀ (fs : List Field) (o : Nat) (ks : List PK), flatF rec fs o = some ks → fit ks (xs.toList.drop o) = true → fit ks (ys.toList.drop o) = true →
      ∃ r, (Op.eqFields D xs ys fs).run P w = .ok r w ∧ (r = true ↔ xs.toList.drop o = ys.toList.drop o)
  | [], o, ks, h, hx, hy => by
    simp only [flatF, Option.some.injEq] at h
    subst h
    refine ⟨true, rfl, ?_⟩
    have e1 := fit_len hx
    have e2 := fit_len hy
    simp only [List.length_nil] at e1 e2
    rw [List.length_eq_zero_iff.1 e1, List.length_eq_zero_iff.1 e2]
    simp
  | f :: fs, o, ks, h, hx, hy => by
    unfold flatF at h
    split at h
    · rename_i hn
      simp only [Bool.and_eq_true, bne_iff_ne, ne_eq, beq_iff_eq] at hn
      obtain ⟨hn, rfl⟩ := hn
      split at h
      · rename_i k1 hr
        split at h
        · rename_i k2 hr2
          simp only [Option.some.injEq] at h
          subst h
          have fx := fit_append hx
          have fy := fit_append hy
          obtain ⟨a, b, r, pa, pb, pr, hiff⟩ := IH _ _ hr xs ys f.offset w fx.1 fy.1
          obtain ⟨r2, pr2, hiff2⟩ := eqFields_flat IH xs ys w fs (f.offset + k1.length) k2 hr2 (by rw [← List.drop_drop]; exact fx.2) (by rw [← List.drop_drop]; exact fy.2)
          have hsplit : ∀ l l' : List Value, (l = l' ↔ l.take k1.length = l'.take k1.length ∧ l.drop k1.length = l'.drop k1.length) := fun l l' => ⟨fun e => by rw [e]; exact ⟨rfl, rfl⟩, fun ⟨e1, e2⟩ => by rw [← List.take_append_drop k1.length l, e1, e2, List.take_append_drop]⟩
          simp only [Op.eqFields, ne_eq, hn, not_false_eq_true, if_true]
          rw [run_bind_ok pa, run_bind_ok pb, run_bind_ok pr]
          cases hrr : r with
          | false =>
            refine ⟨false, by simp [go_sem], ?_⟩
            rw [hsplit]
            rw [hrr] at hiff
            simp at hiff ⊢
            exact fun e => absurd e hiff
          | true =>
            refine ⟨r2, by simpa using pr2, ?_⟩
            rw [hsplit, hiff2, List.drop_drop, List.drop_drop]
            rw [hrr] at hiff
            simp at hiff
            exact ⟨fun e => ⟨hiff, e⟩, fun e => e.2⟩
        · cases h
      · cases h
    · cases h

theorem take1 {xs : Array Value} {o : Nat} {v : Value} (h : (xs.toList.drop o).take 1 = [v]) : xs[o]? = some v := by
  have : (xs.toList.drop o)[0]? = some v := by
    cases hd : xs.toList.drop o with
    | nil => rw [hd] at h; simp at h
    | cons a r => rw [hd] at h; simp at h; subst h; rfl
  simpa [List.getElem?_drop] using this

theorem run_part_one {t : TypeId} {cs : Array Value} {o : Nat} {v : Value} {w : World} (hu : oneT P t = true) (hv : cs[o]? = some v) : (part t cs o).run P w = .ok v w := by
  unfold part
  rw [run_bind_ok (run_isAgg_false hu w)]
  simp [hv, go_sem]

theorem flat_eq : ∀ (d D : Nat) (t : TypeId) (ks : List PK), d ≤ D → flat P d t = some ks → EqA P D t ks
  | 0, D, t, ks, _, h => by simp [flat] at h
  | d + 1, 0, t, ks, hd, _ => by omega
  | d + 1, D + 1, t, ks, hd, h => by
    intro xs ys o w hx hy
    unfold flat at h
    split at h
    · rename_i k hu
      simp only [Option.some.injEq] at h
      subst h
      have get : ∀ (zs : Array Value), fit [.int k] ((zs.toList.drop o).take 1) = true → ∃ n, (zs.toList.drop o).take 1 = [.int k n] := fun zs hz => by
        match hl : (zs.toList.drop o).take 1, hz with
        | [v], hz =>
          cases v <;> simp [fit, PK.fit] at hz
          subst hz
          exact ⟨_, rfl⟩
        | [], hz => simp [fit] at hz
        | _ :: _ :: _, hz => simp [fit] at hz
      obtain ⟨n, e1⟩ := get xs hx
      obtain ⟨m, e2⟩ := get ys hy
      refine ⟨_, _, _, run_part_one (by simp [oneT, hu]) (take1 e1), run_part_one (by simp [oneT, hu]) (take1 e2), run_equalIn_int w D t k k n m hu, ?_⟩
      show _ ↔ (xs.toList.drop o).take 1 = (ys.toList.drop o).take 1
      rw [e1, e2]
      simp
    · rename_i hu
      simp only [Option.some.injEq] at h
      subst h
      have get : ∀ (zs : Array Value), fit [.bool] ((zs.toList.drop o).take 1) = true → ∃ n, (zs.toList.drop o).take 1 = [.bool n] := fun zs hz => by
        match hl : (zs.toList.drop o).take 1, hz with
        | [v], hz =>
          cases v <;> simp [fit, PK.fit] at hz
          exact ⟨_, rfl⟩
        | [], hz => simp [fit] at hz
        | _ :: _ :: _, hz => simp [fit] at hz
      obtain ⟨n, e1⟩ := get xs hx
      obtain ⟨m, e2⟩ := get ys hy
      refine ⟨_, _, _, run_part_one (by simp [oneT, hu]) (take1 e1), run_part_one (by simp [oneT, hu]) (take1 e2), run_equalIn_bool w D t n m hu, ?_⟩
      show _ ↔ (xs.toList.drop o).take 1 = (ys.toList.drop o).take 1
      rw [e1, e2]
      simp
    · rename_i hu
      simp only [Option.some.injEq] at h
      subst h
      have get : ∀ (zs : Array Value), fit [.string] ((zs.toList.drop o).take 1) = true → ∃ n, (zs.toList.drop o).take 1 = [.string n] := fun zs hz => by
        match hl : (zs.toList.drop o).take 1, hz with
        | [v], hz =>
          cases v <;> simp [fit, PK.fit] at hz
          exact ⟨_, rfl⟩
        | [], hz => simp [fit] at hz
        | _ :: _ :: _, hz => simp [fit] at hz
      obtain ⟨n, e1⟩ := get xs hx
      obtain ⟨m, e2⟩ := get ys hy
      refine ⟨_, _, _, run_part_one (by simp [oneT, hu]) (take1 e1), run_part_one (by simp [oneT, hu]) (take1 e2), run_equalIn_string w D t n m hu, ?_⟩
      show _ ↔ (xs.toList.drop o).take 1 = (ys.toList.drop o).take 1
      rw [e1, e2]
      simp only [beq_iff_eq, List.cons.injEq, Value.string.injEq, and_true]
      exact ⟨fun e => by rw [ByteArray.toList_eq, ByteArray.toList_eq] at e; cases n; cases m; simp at e; rw [e], fun e => by rw [e]⟩
    · rename_i fs hu
      split at h
      · cases h
      · rename_i hs
        split at h
        · rename_i ks' hff
          split at h
          · rename_i hi
            obtain rfl := Option.some.inj h
            cases hinf : P.info? t with
            | none => rw [hinf] at hi; simp at hi
            | some i =>
              have hi : i.size = ks'.length := by have := hi.1; simpa [Program.cellsOf, hinf] using this
              have ext : ∀ (zs : Array Value), (zs.extract o (o + ks'.length)).toList = (zs.toList.drop o).take ks'.length := fun zs => by
                rw [Array.toList_extract]; simp [List.extract]
              have pt : ∀ (zs : Array Value), (part t zs o).run P w = .ok (.agg (zs.extract o (o + ks'.length))) w := fun zs => by
                simp [part, isAgg, run_underlying hu, run_sizeOf w hinf, Program.cellsOf, hinf, hi]
              have hfs : P.fieldsOf t = fs := by simp [Program.fieldsOf, hu]
              obtain ⟨r, hr, hiff⟩ := eqFields_flat (rec := flat P d) (D := D) (fun t ks h => flat_eq d D t ks (by omega) h) (xs.extract o (o + ks'.length)) (ys.extract o (o + ks'.length)) w fs.toList 0 ks' hff (by rw [ext]; exact hx) (by rw [ext]; exact hy)
              refine ⟨_, _, r, pt xs, pt ys, ?_, ?_⟩
              · rw [run_equalIn_struct w D t _ _ (by rw [hfs]; exact hu) (by simpa using hs), hfs]
                exact hr
              · rw [hiff, ext, ext, List.drop_zero, List.drop_zero]
          · cases h
        · cases h
    · cases h

def structT (P : Program) (t : TypeId) : Bool := match P.underlying t with | some (.struct _) => true | _ => false
theorem flat_top {t : TypeId} {ks : List PK} {l1 l2 : List Value} {w : World} (h : flat P 11 t = some ks) (hst : structT P t = true) (h1 : fit ks l1 = true) (h2 : fit ks l2 = true) :
    ∃ r, (Op.equalIn 10000 t (.agg l1.toArray) (.agg l2.toArray)).run P w = .ok r w ∧ (r = true ↔ l1 = l2) := by
  unfold flat at h
  unfold structT at hst
  cases hu : P.underlying t with
  | none => rw [hu] at hst; cases hst
  | some ds =>
    cases ds with
    | struct fs =>
      simp only [hu] at h
      split at h
      · cases h
      · rename_i hs
        split at h
        · rename_i ks' hff
          split at h
          · obtain rfl := Option.some.inj h
            have hfs : P.fieldsOf t = fs := by simp [Program.fieldsOf, hu]
            obtain ⟨r, hr, hiff⟩ := eqFields_flat (rec := flat P 10) (D := 9999) (fun t ks h => flat_eq 10 9999 t ks (by omega) h) l1.toArray l2.toArray w fs.toList 0 ks' hff (by simpa using h1) (by simpa using h2)
            refine ⟨r, ?_, by simpa using hiff⟩
            rw [run_equalIn_struct w 9999 t _ _ (by rw [hfs]; exact hu) (by simpa using hs), hfs]
            exact hr
          · cases h
        · cases h
    | _ => rw [hu] at hst; cases hst

variable {n : Nat} {κ : Ctx} {ρ : Env} {H : List Chunk} {g : Bool}
theorem ev_eqlF {x y : Operand} {t u : TypeId} {l1 l2 : List Value} (ks : List PK) (r : Bool) (hr : r = true ↔ l1 = l2)
    (hx : Gets ρ g x (.agg l1.toArray) := by first | exact .plain rfl | exact .cond rfl id | exact .cond rfl gl) (hy : Gets ρ g y (.agg l2.toArray) := by first | exact .plain rfl | exact .cond rfl id | exact .cond rfl gl)
    (hf1 : fit ks l1 = true := by rfl) (hf2 : fit ks l2 = true := by rfl) (hk : flat P 11 t = some ks := by kernel_rfl) (hst : structT P t = true := by kernel_rfl) (hgt : P.eqGuardType P.depth t = false := by kernel_rfl) :
    Ev P n κ H ρ g (.binOp .eql t x y u) (.bool r) := by
  intro w act dst ty pos aft gd hm ho hg
  obtain ⟨r', h1, h2⟩ := flat_top (w := w) hk hst hf1 hf2
  have : r' = r := by rw [Bool.eq_iff_iff, h2, hr]
  subst this
  simp only [execOp, hx.eval ho hg, hy.eval ho hg]
  refine run_value ?_
  rw [run_bind_ok (run_eqGuard_agg (P := P) w .eql t x y _ _ hgt), run_eql_struct, h1]
  rfl
theorem ev_neqF {x y : Operand} {t u : TypeId} {l1 l2 : List Value} (ks : List PK) (r : Bool) (hr : r = true ↔ l1 = l2)
    (hx : Gets ρ g x (.agg l1.toArray) := by first | exact .plain rfl | exact .cond rfl id | exact .cond rfl gl) (hy : Gets ρ g y (.agg l2.toArray) := by first | exact .plain rfl | exact .cond rfl id | exact .cond rfl gl)
    (hf1 : fit ks l1 = true := by rfl) (hf2 : fit ks l2 = true := by rfl) (hk : flat P 11 t = some ks := by kernel_rfl) (hst : structT P t = true := by kernel_rfl) (hgt : P.eqGuardType P.depth t = false := by kernel_rfl) :
    Ev P n κ H ρ g (.binOp .neq t x y u) (.bool (!r)) := by
  intro w act dst ty pos aft gd hm ho hg
  obtain ⟨r', h1, h2⟩ := flat_top (w := w) hk hst hf1 hf2
  have : r' = r := by rw [Bool.eq_iff_iff, h2, hr]
  subst this
  simp only [execOp, hx.eval ho hg, hy.eval ho hg]
  refine run_value ?_
  rw [run_bind_ok (run_eqGuard_agg (P := P) w .neq t x y _ _ hgt), run_neq_struct, h1]
  rfl
end


end Go.Dc

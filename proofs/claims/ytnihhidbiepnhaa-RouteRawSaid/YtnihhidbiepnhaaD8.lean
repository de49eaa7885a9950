/- Engine of the decompiler, part 8: loops of the model, and some more operations. -/
import Derived.Test.YtnihhidbiepnhaaD7
namespace Go.Dc
open Go.RowKit GoRep

/-- A loop of the model: body goes on by its first argument. -/
def iter {σ β : Type} (body : (σ → Option β) → σ → Option β) : Nat → σ → Option β
  | 0, _ => none
  | n + 1, s => body (iter body n) s
theorem iter_open {σ β : Type} {body : (σ → Option β) → σ → Option β} {n : Nat} {s : σ} {r : β} (h : iter body n s = some r) : ∃ m, n = m + 1 ∧ body (iter body m) s = some r := by
  cases n with
  | zero => cases h
  | succ m => exact ⟨m, rfl, h⟩
/-- More rounds than any loop of the program makes. -/
def FUEL : Nat := 18446744073709551616

theorem eqc {σ β : Type} {c d : σ → Option β} {x : σ} {y : β} (h : c = d) (hM : c x = some y) : d x = some y := h ▸ hM
theorem iter_open' {σ β : Type} {body : (σ → Option β) → σ → Option β} {n : Nat} {s : σ} {r : β} (h : iter body n s = some r) : ∃ m c, n = m + 1 ∧ c = iter body m ∧ body c s = some r := by
  obtain ⟨m, h1, h2⟩ := iter_open h
  exact ⟨m, _, h1, rfl, h2⟩
theorem quo_ok {p q : Int} (h : (decide (q ≠ 0) && i64b (p.tdiv q)) = true) : q ≠ 0 ∧ I64 (p.tdiv q) := by
  simp only [Bool.and_eq_true, decide_eq_true_eq] at h
  exact ⟨h.1, i64b_I64 h.2⟩
theorem gor {g b : Bool} (h : (!g || b) = true) (hg : g = true) : b = true := by subst hg; simpa using h
theorem some_inj {α : Type} {x y : α} (h : some x = some y) : y = x := by cases h; rfl

/-- x lies in the soup, as r says. -/
def Sk {α : Type} [GoRep α] (κ : Ctx) (H : List Chunk) (r : R α) (x : α) : Prop := ∀ S w, MemS S κ H w → ok S w r x
/-- So do the elements of xs. -/
def OkL {α : Type} [GoRep α] (κ : Ctx) (H : List Chunk) (es : Nat → R α) (xs : List α) : Prop := ∀ S w, MemS S κ H w → ∀ i y, xs[i]? = some y → ok S w (es i) y
section
variable {κ : Ctx} {H : List Chunk} {α : Type} [GoRep α]
theorem Sk.imm {r : R α} {x : α} (h : Has H (Dc.imm r x)) : Sk κ H r x := fun _ _ hm => h.φ hm
theorem Sk.kn {r : R α} {x : α} (h : Sk κ H r x) : Kn κ H r x := fun S w hm => ⟨fun _ => False, fun _ h => h.elim, GoRep.mono S _ w r x (fun _ h => .inl h) (h S w hm)⟩
theorem Sk.map {β : Type} [GoRep β] {r : R α} {x : α} {r' : R β} {x' : β} (h : Sk κ H r x) (hp : ∀ S w, ok S w r x → ok S w r' x') : Sk κ H r' x' := fun S w hm => hp S w (h S w hm)
theorem Sk.elem {r : SR (R α)} {xs : List α} {i : Int} {x : α} (h : Sk κ H (α := List α) r xs) (hi : idx xs i = some x) : Sk κ H (r.es i.toNat) x :=
  fun S w hm => ((h S w hm).2.2 i.toNat x (idx_some hi).2.2).2.2.2
theorem Sk.row {e : TypeId} {r : SR (R α)} {xs : List α} {i : Int} {x : α} (h : Has H (trow e r xs)) (hi : idx xs i = some x) : Sk κ H (r.es i.toNat) x := fun S w hm => by
  have hx := (idx_some hi).2.2
  rcases (h.φ hm).2 with ⟨_, h2, _⟩ | ⟨_, _, _, _, _, _, _, h5⟩
  · subst h2; simp at hx
  · exact (h5 _ x hx).2
theorem Sk.okL {r : SR (R α)} {xs : List α} (h : Sk κ H (α := List α) r xs) : OkL κ H r.es xs := fun S w hm i y hy => ((h S w hm).2.2 i y hy).2.2.2
theorem OkL.flat {es : Nat → R α} {xs : List α} (h : ∀ S w r x, ok (α := α) S w r x) : OkL κ H es xs := fun _ _ _ _ _ _ => h _ _ _ _
theorem OkL.nil {es : Nat → R α} : OkL κ H es ([] : List α) := fun _ _ _ i y h => by simp at h
theorem OkL.cons {es : Nat → R α} {x : α} {xs : List α} (h : Sk κ H (es 0) x) (t : OkL κ H (fun i => es (i + 1)) xs) : OkL κ H es (x :: xs) := fun S w hm i y hy => by
  cases i with
  | zero => simp at hy; subst hy; exact h S w hm
  | succ i => exact t S w hm i y (by simpa using hy)
theorem flatC_trow {e : TypeId} {r : SR (R α)} {xs : List α} (h : ∀ S w r x, ok (α := α) S w r x) : FlatC (trow e r xs) := fun S S' w hw => by
  refine ⟨hw.1, ?_⟩
  rcases hw.2 with h2 | ⟨g, o, cur, ha, hg, h3, h4, h5⟩
  · exact .inl h2
  · exact .inr ⟨g, o, cur, ha, hg, h3, h4, fun i x hx => ⟨(h5 i x hx).1, h _ _ _ _⟩⟩
theorem flatC_own {b : Nat} {T : TypeId} {l : List Value} : FlatC (own b T l) := fun _ _ _ h => h
theorem lend_lt {S : Soup} {w : World} (hm : MemS S κ H w) : ∀ k, lend S H k → k < w.heap.size := fun k hk => by
  rcases hk with h | ⟨c, hc, h⟩
  · exact hm.lt k h
  · exact ((hm.all c hc).2 k h).1
end

section
variable {P : Program} {n : Nat} {κ : Ctx} {ρ : Env} {H : List Chunk} {g : Bool} {C : Env → List Chunk → Prop}

theorem pre_nil {S : Soup} {w : World} (hS : ∀ k, S k → k < w.heap.size) : Pre S [] w :=
  ⟨hS, ⟨fun c hc => by simp at hc, .nil⟩, fun k ⟨c, hc, _⟩ => by simp at hc⟩
theorem Mem.immP {α : Type} [GoRep α] {S : Soup} {w : World} {cs H : List Chunk} {r : R α} {x : α} (hm : Mem (κof w S cs) H w) (h : ok S w r x) : Mem (κof w S cs) (imm r x :: H) w :=
  hm.immAdd fun S' hm' => GoRep.mono S S' w r x hm'.sub h

theorem ev_quo' {x y : Operand} {t u : TypeId} {p q : Int} (hr : g = true → q ≠ 0 ∧ I64 (p.tdiv q)) (hx : Gets ρ g x (.int .i64 p) := by first | exact .plain rfl | exact .cond rfl id | exact .cond rfl gl) (hy : Gets ρ g y (.int .i64 q) := by first | exact .plain rfl | exact .cond rfl id | exact .cond rfl gl) :
    Ev P n κ H ρ g (.binOp .quo t x y u) (.int .i64 (p.tdiv q)) := by
  intro w a dst ty pos aft gd hm ho hg
  have := ev_quo (P := P) (n := n) (κ := κ) (H := H) (t := t) (u := u) hx hy (fun hg => (hr hg).1) w a dst ty pos aft gd hm ho hg
  rw [i64_wrap (hr hg).2.1 (hr hg).2.2] at this
  exact this

/-- Part of a block of the call's own, as a struct. -/
theorem ev_load_part {x : Operand} {t b o T m : Nat} {l l' : List Value} (hl' : (l.drop o).take m = l' := by rfl) (hl : l'.length = m := by rfl) (hx : Gets ρ g x (.pointer (some ⟨b, o, none⟩)) := by first | exact .plain rfl | exact .cond rfl id | exact .cond rfl gl)
    (hh : Has H (own b T l) := by repeat (first | exact Has.head | apply Has.tail)) (ht : aggT P t = some m := by kernel_rfl) : Ev P n κ H ρ g (.load t x) (.agg l'.toArray) :=
  ev_load_agg hx ht hl fun _ _ hm j v hv => by
    rw [Addr.add_lit]
    refine own_cell (hh.own hm) ?_
    rw [← hl', List.getElem?_take] at hv
    split at hv
    · rwa [List.getElem?_drop] at hv
    · cases hv

/-- 'c && y' where c does not hold. -/
theorem ev_andF {c y : Operand} {b : Bool} (hb : b = false) (hc : Gets ρ g c (.bool b) := by first | exact .plain rfl | exact .cond rfl id | exact .cond rfl gl) : Ev P n κ H ρ g (.pick c y (.const (.bool false))) (.bool false) := by
  intro w a dst ty pos aft gd hm ho hg
  have e := hc.eval ho hg
  subst hb
  simp only [execOp, e]; rfl
/-- 'c || y' where c holds. -/
theorem ev_orT {c y : Operand} {b : Bool} (hb : b = true) (hc : Gets ρ g c (.bool b) := by first | exact .plain rfl | exact .cond rfl id | exact .cond rfl gl) : Ev P n κ H ρ g (.pick c (.const (.bool true)) y) (.bool true) := by
  intro w a dst ty pos aft gd hm ho hg
  have e := hc.eval ho hg
  subst hb
  simp only [execOp, e]; rfl
theorem ow_cases {ops : Array Oper} {Q : Exit → Act → World → Prop} {rest : List Oper} (b : Bool) (ht : b = true → OW P n κ ops Q rest ρ H) (hf : b = false → OW P n κ ops Q rest ρ H) : OW P n κ ops Q rest ρ H := by
  cases b with
  | true => exact ht rfl
  | false => exact hf rfl
theorem aw_imp {ops : Array Oper} {K : Act → World → Prop} {Hs H' : List Chunk} {fuel : Nat} {listed : Array Bool} (h : ∀ w, Mem κ H w → Mem κ H' w) (k : AW P n κ ops K Hs fuel listed ρ H') : AW P n κ ops K Hs fuel listed ρ H :=
  fun w a hm hs ho => k w a (h w hm) hs ho
theorem okNil {α : Type} [GoRep α] {es : Nat → R α} (S : Soup) (w : World) : ok (α := List α) S w (⟨none, 0, es⟩ : SR (R α)) ([] : List α) := ⟨Nat.zero_le _, by simp, fun i x hx => by simp at hx⟩

theorem ev_min2 {x y : Operand} {t u : TypeId} {p q : Int} (hx : Gets ρ g x (.int .i64 p) := by first | exact .plain rfl | exact .cond rfl id | exact .cond rfl gl) (hy : Gets ρ g y (.int .i64 q) := by first | exact .plain rfl | exact .cond rfl id | exact .cond rfl gl) :
    Ev P n κ H ρ g (.call { callee := .builtin .min, args := #[x, y], argTypes := #[t, u] }) (.int .i64 (if q < p then q else p)) := by
  intro w a dst ty pos aft gd hm ho hg
  obtain ⟨cs, hc⟩ := exec_builtin2 a.eval .min x y #[t, u] dst ty pos aft gd
  rw [hc, hx.eval ho hg, hy.eval ho hg]
  refine run_value (s := Builtin.min_ #[t, u] ty #[.int .i64 p, .int .i64 q]) ?_
  simp [Builtin.min_]
  rfl
theorem ev_max2 {x y : Operand} {t u : TypeId} {p q : Int} (hx : Gets ρ g x (.int .i64 p) := by first | exact .plain rfl | exact .cond rfl id | exact .cond rfl gl) (hy : Gets ρ g y (.int .i64 q) := by first | exact .plain rfl | exact .cond rfl id | exact .cond rfl gl) :
    Ev P n κ H ρ g (.call { callee := .builtin .max, args := #[x, y], argTypes := #[t, u] }) (.int .i64 (if q > p then q else p)) := by
  intro w a dst ty pos aft gd hm ho hg
  obtain ⟨cs, hc⟩ := exec_builtin2 a.eval .max x y #[t, u] dst ty pos aft gd
  rw [hc, hx.eval ho hg, hy.eval ho hg]
  refine run_value (s := Builtin.max_ #[t, u] ty #[.int .i64 p, .int .i64 q]) ?_
  simp [Builtin.max_]
  rfl

/-- The one operation that may come up is a call under a guard. -/
theorem aw_callg {ops : Array Oper} {K : Act → World → Prop} {Hs : List Chunk} {fuel : Nat} {listed : Array Bool} {f d j : Nat} {want g : Bool} {xs : List Operand} {vs : List Value} {v : Value} {ts : Array TypeId} {ty : TypeId} {pos : String} {aft : Array Edge}
    (i : Nat) (hi : ops[i]? = some ⟨some d, .call { callee := .value (.func f), args := xs.toArray, argTypes := ts }, ty, pos, aft, some (j, want)⟩)
    (hg : gof ops ρ j want = some g) (hc : g = true → ∀ w, Mem κ H w → Calls P f vs.toArray w (Ret w v))
    (k : AW P n κ ops K Hs fuel (listed.setIfInBounds i true) ((d, .c g v) :: ρ) H)
    (hsub : ∀ w, Mem κ H w → Mem κ Hs w := by (intro w hm; exact hm.sub (by repeat (first | exact List.Sublist.refl _ | apply List.Sublist.cons_cons | apply List.Sublist.cons))))
    (ha : GetsG ρ g xs vs := by repeat (first | exact GetsG.nil | (apply GetsG.cons; first | exact .plain rfl | exact .cond rfl id | exact .cond rfl gl)))
    (hd : Nat.blt d n = true := by rfl) (hf : callable P f = true := by kernel_rfl)
    (hr : Region.ready .any ops listed = [i] := by kernel_rfl) : AW P n κ ops K Hs (fuel + 1) listed ρ H := by
  intro w a hm hms ho
  have hw := wanted_of (o := ⟨some d, .call { callee := .value (.func f), args := xs.toArray, argTypes := ts }, ty, pos, aft, some (j, want)⟩) ho hg rfl
  have hd' : d < n := by simpa [Nat.blt_eq] using hd
  refine wpAnyH_all hr (by simp) fun q hq => ?_
  simp at hq; subst hq
  unfold Go.wpOp
  simp only [hi, hw]
  cases g with
  | false =>
    simp only [Bool.false_eq_true, if_false]
    exact ⟨hms, k w _ hm hms (ho.put hd' rfl)⟩
  | true =>
    simp only [if_true]
    refine .inl ?_
    unfold Oper.wp
    rw [run_call (ha.eval ho rfl) hf]
    refine (hc rfl w hm).mono ?_
    rintro e w' ⟨rfl, hb⟩
    have hm' := hm.keepB hb
    exact ⟨hsub w' hm', k w' _ hm' (hsub w' hm') (ho.put hd' rfl)⟩

theorem Ok.know {g : Bool} {v : Value} {a : Act} {t : Nat} (h : Ok n ρ a) (hg : g = true) (hl : look ρ t = some (.c g v)) : Ok n ((t, .v v) :: ρ) a := by
  refine ⟨h.size, h.nodef, fun u e he => ?_⟩
  simp only [look] at he
  by_cases hb : t = u
  · subst hb
    simp at he
    subst he
    have := h.get _ _ hl
    subst hg
    exact this
  · have hb' : Nat.beq t u = false := beq_ne hb
    rw [hb'] at he
    exact h.get u e he
theorem aw_know {ops : Array Oper} {K : Act → World → Prop} {Hs : List Chunk} {fuel : Nat} {listed : Array Bool} {g : Bool} {v : Value} (t : Nat) (hg : g = true) (hl : look ρ t = some (.c g v))
    (k : AW P n κ ops K Hs fuel listed ((t, .v v) :: ρ) H) : AW P n κ ops K Hs fuel listed ρ H := fun w a hm hs ho => k w a hm hs (ho.know hg hl)
theorem ow_know {ops : Array Oper} {Q : Exit → Act → World → Prop} {rest : List Oper} {g : Bool} {v : Value} (t : Nat) (hg : g = true) (hl : look ρ t = some (.c g v))
    (k : OW P n κ ops Q rest ((t, .v v) :: ρ) H) : OW P n κ ops Q rest ρ H := fun w a hm ho => k w a hm (ho.know hg hl)
theorem aw_evk {ops : Array Oper} {K : Act → World → Prop} {Hs : List Chunk} {fuel : Nat} {listed : Array Bool} {op : Op} {v : Value} {d j : Nat} {want g : Bool} {ty : TypeId} {pos : String} {aft : Array Edge} (i : Nat) (hi : ops[i]? = some ⟨some d, op, ty, pos, aft, some (j, want)⟩)
    (hg : gof ops ρ j want = some g) (hb : g = true)
    (h : Ev P n κ Hs ρ true op v) (k : AW P n κ ops K Hs fuel (listed.setIfInBounds i true) ((d, .v v) :: ρ) H)
    (hd : Nat.blt d n = true := by rfl)
    (h1 : Region.noSelect ops = true := by kernel_rfl) (h2 : Region.free .any ops listed i = true := by kernel_rfl)
    (h3 : (Region.ready .any ops listed).contains i = true := by kernel_rfl) : AW P n κ ops K Hs (fuel + 1) listed ρ H := by
  intro w a hm hms ho
  have hw := wanted_of (o := ⟨some d, op, ty, pos, aft, some (j, want)⟩) ho hg rfl
  subst hb
  refine wpAnyH_take (v := v) hi h1 h2 h3 (fun c a w h => by cases h.1) (.inl ⟨hw, fun w' hS => ?_⟩) hms ?_
  · exact h w' a _ _ _ _ _ hS ho rfl
  · exact k w _ hm hms (ho.put (by simpa [Nat.blt_eq] using hd) rfl)

/-- Decide a guard's value. -/
theorem aw_cases {ops : Array Oper} {K : Act → World → Prop} {Hs : List Chunk} {fuel : Nat} {listed : Array Bool} (b : Bool) (ht : b = true → AW P n κ ops K Hs fuel listed ρ H) (hf : b = false → AW P n κ ops K Hs fuel listed ρ H) : AW P n κ ops K Hs fuel listed ρ H := by
  cases b with
  | true => exact ht rfl
  | false => exact hf rfl
theorem aw_gtrue {ops : Array Oper} {K : Act → World → Prop} {Hs : List Chunk} {fuel : Nat} {listed : Array Bool} {op : Op} {dst : Option Tmp} {j : Nat} {want g : Bool} {ty : TypeId} {pos : String} {aft : Array Edge} (i : Nat)
    (hi : ops[i]? = some ⟨dst, op, ty, pos, aft, some (j, want)⟩) (hg : gof ops ρ j want = some g) (hb : g = true)
    (h : StepO P n κ ⟨dst, op, ty, pos, aft, some (j, want)⟩ ρ H (fun ρ' H' => (∀ w, Mem κ H' w → Mem κ Hs w) ∧ AW P n κ ops K Hs fuel (listed.setIfInBounds i true) ρ' H'))
    (hr : Region.ready .any ops listed = [i] := by kernel_rfl) : AW P n κ ops K Hs (fuel + 1) listed ρ H := by
  intro w a hm hms ho
  have hw := wanted_of (o := ⟨dst, op, ty, pos, aft, some (j, want)⟩) ho hg rfl
  subst hb
  refine wpAnyH_all hr (by simp) fun q hq => ?_
  simp at hq; subst hq
  unfold Go.wpOp
  simp only [hi, hw, if_true]
  refine .inl (h _ _ ?_ w a hm ho)
  intro ρ' H' ⟨c1, c2⟩ w' a' hm' ho'
  exact ⟨c1 w' hm', c2 w' a' hm' (c1 w' hm') ho'⟩
end
end Go.Dc

/- Engine of the decompiler, part 9: boxes that are only read, calls without a result, arrays. -/
import Derived.Test.YtnihhidbiepnhaaD8
namespace Go.Dc
open Go.RowKit GoRep

/-- A block that nobody writes any more. -/
def rbox (b : Nat) (T : TypeId) (l : List Value) : Chunk where
  fp := fun _ => False
  φ := fun S w => S b ∧ w.heap[b]? = some (.cells l.toArray T (0, 0))
  dep := fun S w w' h hw => ⟨hw.1, by rw [h b (.inr hw.1)]; exact hw.2⟩
  mono := fun _ _ _ h hw => ⟨h _ hw.1, hw.2⟩

section
variable {P : Program} {n : Nat} {κ : Ctx} {ρ : Env} {H : List Chunk} {g : Bool} {C : Env → List Chunk → Prop}

theorem Has.rbox {b T : Nat} {l : List Value} {w : World} (h : Has H (rbox b T l)) (hm : Mem κ H w) : w.heap[b]? = some (.cells l.toArray T (0, 0)) := let ⟨_, hs⟩ := hm; (h.φ hs).2
theorem ev_rload_own {x : Operand} {t b o T : Nat} {l : List Value} {v : Value} (hx : Gets ρ g x (.pointer (some ⟨b, o, none⟩)) := by first | exact .plain rfl | exact .cond rfl id | exact .cond rfl gl) (hh : Has H (rbox b T l) := by repeat (first | exact Has.head | apply Has.tail)) (hv : l[o]? = some v := by rfl)
    (ht : oneT P t = true := by kernel_rfl) : Ev P n κ H ρ g (.load t x) v :=
  ev_load_cell hx ht fun _ _ hm => own_cell (hh.rbox hm) hv
theorem ev_rload_part {x : Operand} {t b o T m : Nat} {l l' : List Value} (hl' : (l.drop o).take m = l' := by rfl) (hl : l'.length = m := by rfl) (hx : Gets ρ g x (.pointer (some ⟨b, o, none⟩)) := by first | exact .plain rfl | exact .cond rfl id | exact .cond rfl gl)
    (hh : Has H (rbox b T l) := by repeat (first | exact Has.head | apply Has.tail)) (ht : aggT P t = some m := by kernel_rfl) : Ev P n κ H ρ g (.load t x) (.agg l'.toArray) :=
  ev_load_agg hx ht hl fun _ _ hm j v hv => by
    rw [Addr.add_lit]
    refine own_cell (hh.rbox hm) ?_
    rw [← hl', List.getElem?_take] at hv
    split at hv
    · rwa [List.getElem?_drop] at hv
    · cases hv
theorem Mem.rboxP {S : Soup} {w : World} {cs H : List Chunk} {b T : Nat} {l : List Value} (hm : Mem (κof w S cs) H w) (h : S b ∧ w.heap[b]? = some (.cells l.toArray T (0, 0))) : Mem (κof w S cs) (Dc.rbox b T l :: H) w := by
  obtain ⟨S', hs⟩ := hm
  exact ⟨S', hs.add (Frame.refl _ w) (fun _ h => h) (fun _ h => .inl h) hs.lt ⟨hs.sub _ h.1, h.2⟩ (fun k hk => hk.elim)⟩
theorem own_lend {b T : Nat} {l : List Value} {S : Soup} {w : World} (h : Has H (own b T l)) (hm : MemS S κ H w) : lend S H b ∧ w.heap[b]? = some (.cells l.toArray T (0, 0)) := ⟨.inr ⟨_, h.mem, rfl⟩, h.φ hm⟩
theorem rbox_lend {b T : Nat} {l : List Value} {S : Soup} {w : World} (h : Has H (Dc.rbox b T l)) (hm : MemS S κ H w) : lend S H b ∧ w.heap[b]? = some (.cells l.toArray T (0, 0)) := ⟨.inl (h.φ hm).1, (h.φ hm).2⟩

theorem OkL.row {α : Type} [GoRep α] {e : TypeId} {r : SR (R α)} {xs : List α} (h : Has H (trow e r xs)) : OkL κ H r.es xs := fun S w hm i y hy => by
  rcases (h.φ hm).2 with ⟨_, h2, _⟩ | ⟨_, _, _, _, _, _, _, h5⟩
  · subst h2; simp at hy
  · exact (h5 _ y hy).2

/-! ### Bits and shifts -/
def bitsAnd (k : IntKind) (x y : Int) : Int := k.wrap (BitVec.ofInt k.bits x &&& BitVec.ofInt k.bits y).toNat
def bitsOr (k : IntKind) (x y : Int) : Int := k.wrap (BitVec.ofInt k.bits x ||| BitVec.ofInt k.bits y).toNat
def bitsXor (k : IntKind) (x y : Int) : Int := k.wrap (BitVec.ofInt k.bits x ^^^ BitVec.ofInt k.bits y).toNat
def bitsAndNot (k : IntKind) (x y : Int) : Int := k.wrap (BitVec.ofInt k.bits x &&& ~~~ BitVec.ofInt k.bits y).toNat
def shlI (k : IntKind) (x y : Int) : Int := k.wrap (x * 2 ^ (min y.toNat k.bits))
def shrI (k : IntKind) (x y : Int) : Int := x.fdiv (2 ^ (min y.toNat k.bits))
theorem ev_xor {x y : Operand} {t u : TypeId} {k : IntKind} {p q : Int} (hx : Gets ρ g x (.int k p) := by first | exact .plain rfl | exact .cond rfl id | exact .cond rfl gl) (hy : Gets ρ g y (.int k q) := by first | exact .plain rfl | exact .cond rfl id | exact .cond rfl gl) :
    Ev P n κ H ρ g (.binOp .xor t x y u) (.int k (bitsXor k p q)) := by
  intro w a dst ty pos aft gd hm ho hg
  simp only [execOp, hx.eval ho hg, hy.eval ho hg]
  cases k <;> rfl
theorem ev_and' {x y : Operand} {t u : TypeId} {k : IntKind} {p q : Int} (hx : Gets ρ g x (.int k p) := by first | exact .plain rfl | exact .cond rfl id | exact .cond rfl gl) (hy : Gets ρ g y (.int k q) := by first | exact .plain rfl | exact .cond rfl id | exact .cond rfl gl) :
    Ev P n κ H ρ g (.binOp .and t x y u) (.int k (bitsAnd k p q)) := by
  intro w a dst ty pos aft gd hm ho hg
  simp only [execOp, hx.eval ho hg, hy.eval ho hg]
  cases k <;> rfl
theorem ev_or' {x y : Operand} {t u : TypeId} {k : IntKind} {p q : Int} (hx : Gets ρ g x (.int k p) := by first | exact .plain rfl | exact .cond rfl id | exact .cond rfl gl) (hy : Gets ρ g y (.int k q) := by first | exact .plain rfl | exact .cond rfl id | exact .cond rfl gl) :
    Ev P n κ H ρ g (.binOp .or t x y u) (.int k (bitsOr k p q)) := by
  intro w a dst ty pos aft gd hm ho hg
  simp only [execOp, hx.eval ho hg, hy.eval ho hg]
  cases k <;> rfl
theorem ev_shl' {x y : Operand} {t u : TypeId} {k k2 : IntKind} {p q : Int} (hq : g = true → 0 ≤ q) (hx : Gets ρ g x (.int k p) := by first | exact .plain rfl | exact .cond rfl id | exact .cond rfl gl) (hy : Gets ρ g y (.int k2 q) := by first | exact .plain rfl | exact .cond rfl id | exact .cond rfl gl) :
    Ev P n κ H ρ g (.binOp .shl t x y u) (.int k (shlI k p q)) := by
  intro w a dst ty pos aft gd hm ho hg
  simp only [execOp, hx.eval ho hg, hy.eval ho hg]
  refine run_value ?_
  show (Op.shift .shl k p k2 q).run P w = _
  unfold Op.shift
  rw [if_neg (by have := hq hg; omega)]
  rfl
theorem ev_shr' {x y : Operand} {t u : TypeId} {k k2 : IntKind} {p q : Int} (hq : g = true → 0 ≤ q) (hx : Gets ρ g x (.int k p) := by first | exact .plain rfl | exact .cond rfl id | exact .cond rfl gl) (hy : Gets ρ g y (.int k2 q) := by first | exact .plain rfl | exact .cond rfl id | exact .cond rfl gl) :
    Ev P n κ H ρ g (.binOp .shr t x y u) (.int k (shrI k p q)) := by
  intro w a dst ty pos aft gd hm ho hg
  simp only [execOp, hx.eval ho hg, hy.eval ho hg]
  refine run_value ?_
  show (Op.shift .shr k p k2 q).run P w = _
  unfold Op.shift
  rw [if_neg (by have := hq hg; omega)]
  rfl

/-- Calls whose result is dropped. -/
theorem st_callv0 {f : Nat} {xs : List Operand} {vs : List Value} {v : Value} {ts : Array TypeId} {ty : TypeId} {pos : String} {aft : Array Edge} {gd : Option (Nat × Bool)}
    (hc : ∀ w, Mem κ H w → Calls P f vs.toArray w (Ret w v)) (k : C ρ H)
    (ha : GetsG ρ true xs vs := by repeat (first | exact GetsG.nil | (apply GetsG.cons; first | exact .plain rfl | exact .cond rfl id | exact .cond rfl gl)))
    (hf : callable P f = true := by kernel_rfl) : StepO P n κ ⟨none, .call { callee := .value (.func f), args := xs.toArray, argTypes := ts }, ty, pos, aft, gd⟩ ρ H C := by
  intro K Q hs w a hm ho
  unfold Oper.wp
  rw [run_call (ha.eval ho rfl) hf]
  refine (hc w hm).mono ?_
  rintro e w' ⟨rfl, hb⟩
  exact hs _ _ k w' _ (hm.keepB hb) ho
theorem st_callS0 {f : Nat} {xs : List Operand} {vs : List Value} {ts : Array TypeId} {ty : TypeId} {pos : String} {aft : Array Edge} {gd : Option (Nat × Bool)}
    {β : Type} {cs H1 : List Chunk} {val : β → Value} {cs' : β → List Chunk} (hsel : SelL H cs H1)
    (hc : ∀ S w, MemS S κ H1 w → Pre S cs w → Calls P f vs.toArray w (Post S cs val cs' w))
    (k : ∀ r, C ρ (cs' r ++ H1))
    (ha : GetsG ρ true xs vs := by repeat (first | exact GetsG.nil | (apply GetsG.cons; first | exact .plain rfl | exact .cond rfl id | exact .cond rfl gl)))
    (hf : callable P f = true := by kernel_rfl) :
    StepO P n κ ⟨none, .call { callee := .value (.func f), args := xs.toArray, argTypes := ts }, ty, pos, aft, gd⟩ ρ H C := by
  intro K Q hs w a hm ho
  obtain ⟨S, hm⟩ := hm
  unfold Oper.wp
  rw [run_call (ha.eval ho rfl) hf]
  have hp := hm.perm hsel.perm
  have h1 : MemS S κ H1 w := hp.sub' (List.sublist_append_right _ _)
  have hcs := hp.fold.all _ List.mem_cons_self
  refine (hc S w h1 ⟨hp.lt, hcs.1, fun k hk => ⟨(hcs.2 k hk).1, (hcs.2 k hk).2.1⟩⟩).mono ?_
  rintro e w' ⟨r, S', rfl, hφ, hfp, hS1, hS2, hS3, hfr⟩
  exact hs _ _ (k r) w' _ ⟨S', (hp.fold.upd (c' := many (cs' r)) .head hfr hS1 hS2 hS3 hφ hfp).unfold⟩ ho
theorem st_callF0 {f : Nat} {xs : List Operand} {vs : List Value} {ts : Array TypeId} {ty : TypeId} {pos : String} {aft : Array Edge} {gd : Option (Nat × Bool)}
    {β : Type} {cs H1 : List Chunk} {val : β → Value} {cs' : β → List Chunk} (hsel : SelL H cs H1)
    (hc : ∀ S w, MemS S κ H1 w → Pre (lend S H1) cs w → Calls P f vs.toArray w (Post (lend S H1) cs val cs' w))
    (hfl : ∀ r, ∀ c ∈ cs' r, FlatC c)
    (k : ∀ r, C ρ (cs' r ++ H1))
    (ha : GetsG ρ true xs vs := by repeat (first | exact GetsG.nil | (apply GetsG.cons; first | exact .plain rfl | exact .cond rfl id | exact .cond rfl gl)))
    (hf : callable P f = true := by kernel_rfl) :
    StepO P n κ ⟨none, .call { callee := .value (.func f), args := xs.toArray, argTypes := ts }, ty, pos, aft, gd⟩ ρ H C := by
  intro K Q hs w a hm ho
  obtain ⟨S, hm⟩ := hm
  unfold Oper.wp
  rw [run_call (ha.eval ho rfl) hf]
  have hp := hm.perm hsel.perm
  have h1 : MemS S κ H1 w := hp.sub' (List.sublist_append_right _ _)
  refine (hc S w h1 (callee_pre hp)).mono ?_
  rintro e w' ⟨r, S', rfl, hφ, hfp, hS1, hS2, hS3, hfr⟩
  have hcs := (hp.fold.all _ List.mem_cons_self).2
  have hd1 := (List.pairwise_cons.1 hp.fold.disj).1
  refine hs _ _ (k r) w' _ ⟨fun k => S' k ∧ ¬ (∃ c ∈ H1, c.fp k), (hp.fold.upd (c' := many (cs' r)) (S' := fun k => S' k ∧ ¬ (∃ c ∈ H1, c.fp k)) .head hfr ?_ ?_ ?_ ?_ ?_).unfold⟩ ho
  · exact fun k hk => ⟨hS1 k (.inl hk), fun ⟨c, hc, h⟩ => ((h1.all c hc).2 k h).2.1 hk⟩
  · rintro k ⟨hk, hn⟩
    rcases hS2 k hk with (h | h) | h | h
    · exact .inl h
    · exact absurd h hn
    · exact .inr (.inl h)
    · exact .inr (.inr h)
  · exact fun k hk => hS3 k hk.1
  · exact ⟨fun c hc => hfl r c hc _ _ _ (hφ.1 c hc), hφ.2⟩
  · exact fun k hk => ⟨(hfp k hk).1, (hfp k hk).2.1, fun h => (hfp k hk).2.2 h.1⟩

/-! ### Arrays of the call's own -/

/-- A local array, as a row. -/
theorem Mem.arr {α : Type} [GoRep α] {b T m : Nat} {l : List Value} {x0 : α} {rz : R α} {w : World} {H' : List Chunk} (hm : Mem κ H w) (hl : l = encL (fun _ => rz) (List.replicate m x0) 0 := by rfl)
    (hok : ∀ S w, ok S w rz x0) (hb : m * GoRep.bytes α ≤ 140737488355328)
    (hu : Upd H (own b T l) (trow (α := α) T ⟨some ⟨b, 0, none⟩, m, fun _ => rz⟩ (List.replicate m x0)) H' := by repeat (first | exact Upd.head | apply Upd.tail)) : Mem κ H' w := by
  obtain ⟨S, hs⟩ := hm
  have h0 := hs.all _ hu.has.mem
  have hh : w.heap[b]? = some (.cells l.toArray T (0, 0)) := h0.1
  refine ⟨S, hs.upd hu (Frame.refl _ w) (fun _ h => h) (fun _ h => .inl h) hs.lt ⟨by rw [List.length_replicate]; exact hb, .inr ⟨b, 0, l.toArray, rfl, hh, by rw [List.length_replicate]; exact Nat.le_refl _, ?_, fun i x hx => ?_⟩⟩ ?_⟩
  · simp [hl, encL_len]
  · refine ⟨fun j v hv => ?_, ?_⟩
    · have hj : j < GoRep.n α := by have := (List.getElem?_eq_some_iff.1 hv).1; rwa [GoRep.len] at this
      rw [hl]
      simp only [List.getElem?_toArray, Nat.zero_add]
      rw [encL_get _ _ 0 i j x hx hj]
      exact hv
    · rw [List.getElem?_replicate] at hx
      split at hx
      · simp at hx; subst hx; exact hok S w
      · cases hx
  · rintro k ⟨p, hp, rfl⟩
    cases hp
    exact ⟨.inl rfl, (h0.2 b rfl).1, (h0.2 b rfl).2.1⟩

def arrInfo (P : Program) (t m sz : Nat) : Bool :=
  match P.underlying t with
  | some (.array k e) => k == m && decide (1 < m) && (match P.info? e with | some i => i.size == sz | none => false)
  | _ => false

/-- The address of an element of a local array. -/
theorem ev_aidx {α : Type} [GoRep α] {x y : Operand} {t b m : Nat} {es : Nat → R α} {r : SR (R α)} {k : IntKind} {i : Int} {xs : List α} (sz : Nat) (hk : Kn κ H (α := List α) r xs) (hi' : g = true → 0 ≤ i ∧ i < (xs.length : Int))
    (hr : r = ⟨some ⟨b, 0, none⟩, m, es⟩ := by rfl)
    (hx : Gets ρ g x (.pointer (some ⟨b, 0, none⟩)) := by first | exact .plain rfl | exact .cond rfl id | exact .cond rfl gl) (hy : Gets ρ g y (.int k i) := by first | exact .plain rfl | exact .cond rfl id | exact .cond rfl gl)
    (hs : arrInfo P t m sz = true := by kernel_rfl) :
    Ev P n κ H ρ g (.indexAddr t x y) (.pointer (some ⟨b, 0 + i.toNat * sz, none⟩)) := by
  intro w a dst ty pos aft gd hm ho hg
  have hb : 0 ≤ i ∧ i < (m : Int) := by
    have h1 := hi' hg
    obtain ⟨S, hs'⟩ := hm
    obtain ⟨L, _, h2⟩ := hk S w hs'
    have h3 := h2.1
    rw [hr] at h3
    have h4 : xs.length ≤ m := h3
    omega
  have e1 := hx.eval ho hg
  have e2 := hy.eval ho hg
  unfold arrInfo at hs
  split at hs
  · rename_i kk el hu
    simp only [Bool.and_eq_true, beq_iff_eq, decide_eq_true_eq] at hs
    obtain ⟨⟨h1, h2⟩, h3⟩ := hs
    subst h1
    cases hti : P.info? el with
    | none => rw [hti] at h3; cases h3
    | some ti =>
      rw [hti] at h3
      simp at h3
      subst h3
      show (Instr.indexAt t (a.eval x) (a.eval y) >>= fun v => pure (Next.value v)).run P w = _
      rw [e1, e2]
      refine run_value ?_
      unfold Instr.indexAt
      show (underlying t >>= _).run P w = _
      rw [run_bind_ok (run_under hu w)]
      show (underlying t >>= _).run P w = _
      rw [run_bind_ok (run_under hu w)]
      simp only [hb, and_self, if_true]
      rw [run_bind_ok (run_size hti w)]
      show Result.ok (Value.pointer (some (Addr.add ⟨b, 0, none⟩ (i.toNat * ti.size)))) w = _
      rw [Addr.add_lit]
  · cases hs
end
end Go.Dc

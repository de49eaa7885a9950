/- Engine of the decompiler, part 2: what single operations do. -/
import Derived.Test.YtnihhidbiepnhaaD1
namespace Go.Dc
open Go.RowKit

theorem Has.own {κ : Ctx} {H : List Chunk} {w : World} {b T : Nat} {l : List Value} (h : Has H (own b T l)) (hm : Mem κ H w) : w.heap[b]? = some (.cells l.toArray T (0, 0)) :=
  let ⟨_, hs⟩ := hm; h.φ hs

section
variable {P : Program} {n : Nat} {κ : Ctx} {ρ : Env} {H : List Chunk} {g : Bool}

theorem gl {b x : Bool} (h : (b && x) = true) : b = true := by simp at h; exact h.1

theorem ev_move {x : Operand} {v : Value} (hx : Gets ρ g x v := by first | exact .plain rfl | exact .cond rfl id | exact .cond rfl gl) : Ev P n κ H ρ g (.move x) v := by
  intro w a dst ty pos aft gd hm ho hg
  have e := hx.eval ho hg
  simp only [execOp, e]; rfl

theorem ev_assign {x : Operand} {v : Value} (hx : Gets ρ g x v := by first | exact .plain rfl | exact .cond rfl id | exact .cond rfl gl) : Ev P n κ H ρ g (.assign x) v := by
  intro w a dst ty pos aft gd hm ho hg
  have e := hx.eval ho hg
  simp only [execOp, e]; rfl

/-- 'c && y'. -/
theorem ev_and {c y : Operand} {b x : Bool} (hc : Gets ρ g c (.bool b) := by first | exact .plain rfl | exact .cond rfl id | exact .cond rfl gl) (hy : Gets ρ (g && b) y (.bool x) := by first | exact .plain rfl | exact .cond rfl id | exact .cond rfl gl) : Ev P n κ H ρ g (.pick c y (.const (.bool false))) (.bool (b && x)) := by
  intro w a dst ty pos aft gd hm ho hg
  have e := hc.eval ho hg
  cases b with
  | true =>
    have e2 := hy.eval ho (by simp [hg])
    simp only [execOp, e, e2]; rfl
  | false => simp only [execOp, e]; rfl

/-- 'c || y'. -/
theorem ev_or {c y : Operand} {b x : Bool} (hc : Gets ρ g c (.bool b) := by first | exact .plain rfl | exact .cond rfl id | exact .cond rfl gl) (hy : Gets ρ (g && !b) y (.bool x) := by first | exact .plain rfl | exact .cond rfl id | exact .cond rfl gl) : Ev P n κ H ρ g (.pick c (.const (.bool true)) y) (.bool (b || x)) := by
  intro w a dst ty pos aft gd hm ho hg
  have e := hc.eval ho hg
  cases b with
  | true => simp only [execOp, e]; rfl
  | false =>
    have e2 := hy.eval ho (by simp [hg])
    simp only [execOp, e, e2]; rfl

theorem ev_pick {c x y : Operand} {b : Bool} {u v : Value} (hc : Gets ρ g c (.bool b) := by first | exact .plain rfl | exact .cond rfl id | exact .cond rfl gl) (hx : Gets ρ (g && b) x u := by first | exact .plain rfl | exact .cond rfl id | exact .cond rfl gl) (hy : Gets ρ (g && !b) y v := by first | exact .plain rfl | exact .cond rfl id | exact .cond rfl gl) :
    Ev P n κ H ρ g (.pick c x y) (match b with | true => u | false => v) := by
  intro w a dst ty pos aft gd hm ho hg
  have e := hc.eval ho hg
  cases b with
  | true =>
    have e2 := hx.eval ho (by simp [hg])
    simp only [execOp, e, e2]; rfl
  | false =>
    have e2 := hy.eval ho (by simp [hg])
    simp only [execOp, e, e2]; rfl

/-! integers -/

theorem i64_wrap {x : Int} (h1 : -9223372036854775808 ≤ x) (h2 : x ≤ 9223372036854775807) : IntKind.i64.wrap x = x := by
  simp only [IntKind.wrap, IntKind.signed, IntKind.bits]
  simp
  omega

/-- x is representable. -/
def I64 (x : Int) : Prop := -9223372036854775808 ≤ x ∧ x ≤ 9223372036854775807

theorem ev_add {x y : Operand} {t u : TypeId} {p q : Int} (hx : Gets ρ g x (.int .i64 p) := by first | exact .plain rfl | exact .cond rfl id | exact .cond rfl gl) (hy : Gets ρ g y (.int .i64 q) := by first | exact .plain rfl | exact .cond rfl id | exact .cond rfl gl) (hr : g = true → I64 (p + q) := by first | (intro _; unfold I64; omega) | (intro hg; simp at hg; unfold I64; omega)) :
    Ev P n κ H ρ g (.binOp .add t x y u) (.int .i64 (p + q)) := by
  intro w a dst ty pos aft gd hm ho hg
  have e1 := hx.eval ho hg
  have e2 := hy.eval ho hg
  have h := i64_wrap (hr hg).1 (hr hg).2
  simp only [execOp, e1, e2]
  show Result.ok (Next.value (.int .i64 (IntKind.i64.wrap (p + q)))) w = _
  rw [h]

theorem ev_sub {x y : Operand} {t u : TypeId} {p q : Int} (hx : Gets ρ g x (.int .i64 p) := by first | exact .plain rfl | exact .cond rfl id | exact .cond rfl gl) (hy : Gets ρ g y (.int .i64 q) := by first | exact .plain rfl | exact .cond rfl id | exact .cond rfl gl) (hr : g = true → I64 (p - q) := by first | (intro _; unfold I64; omega) | (intro hg; simp at hg; unfold I64; omega)) :
    Ev P n κ H ρ g (.binOp .sub t x y u) (.int .i64 (p - q)) := by
  intro w a dst ty pos aft gd hm ho hg
  have e1 := hx.eval ho hg
  have e2 := hy.eval ho hg
  have h := i64_wrap (hr hg).1 (hr hg).2
  simp only [execOp, e1, e2]
  show Result.ok (Next.value (.int .i64 (IntKind.i64.wrap (p - q)))) w = _
  rw [h]

theorem ev_mul {x y : Operand} {t u : TypeId} {p q : Int} (hx : Gets ρ g x (.int .i64 p) := by first | exact .plain rfl | exact .cond rfl id | exact .cond rfl gl) (hy : Gets ρ g y (.int .i64 q) := by first | exact .plain rfl | exact .cond rfl id | exact .cond rfl gl) (hr : g = true → I64 (p * q) := by first | (intro _; unfold I64; omega) | (intro hg; simp at hg; unfold I64; omega)) :
    Ev P n κ H ρ g (.binOp .mul t x y u) (.int .i64 (p * q)) := by
  intro w a dst ty pos aft gd hm ho hg
  have e1 := hx.eval ho hg
  have e2 := hy.eval ho hg
  have h := i64_wrap (hr hg).1 (hr hg).2
  simp only [execOp, e1, e2]
  show Result.ok (Next.value (.int .i64 (IntKind.i64.wrap (p * q)))) w = _
  rw [h]

/-- Sums, differences and products of whatever kind, wrapped. -/
theorem ev_addw {x y : Operand} {t u : TypeId} {k : IntKind} {p q : Int} (hx : Gets ρ g x (.int k p) := by first | exact .plain rfl | exact .cond rfl id | exact .cond rfl gl) (hy : Gets ρ g y (.int k q) := by first | exact .plain rfl | exact .cond rfl id | exact .cond rfl gl) :
    Ev P n κ H ρ g (.binOp .add t x y u) (.int k (k.wrap (p + q))) := by
  intro w a dst ty pos aft gd hm ho hg
  simp only [execOp, hx.eval ho hg, hy.eval ho hg]
  cases k <;> rfl
theorem ev_subw {x y : Operand} {t u : TypeId} {k : IntKind} {p q : Int} (hx : Gets ρ g x (.int k p) := by first | exact .plain rfl | exact .cond rfl id | exact .cond rfl gl) (hy : Gets ρ g y (.int k q) := by first | exact .plain rfl | exact .cond rfl id | exact .cond rfl gl) :
    Ev P n κ H ρ g (.binOp .sub t x y u) (.int k (k.wrap (p - q))) := by
  intro w a dst ty pos aft gd hm ho hg
  simp only [execOp, hx.eval ho hg, hy.eval ho hg]
  cases k <;> rfl
theorem ev_mulw {x y : Operand} {t u : TypeId} {k : IntKind} {p q : Int} (hx : Gets ρ g x (.int k p) := by first | exact .plain rfl | exact .cond rfl id | exact .cond rfl gl) (hy : Gets ρ g y (.int k q) := by first | exact .plain rfl | exact .cond rfl id | exact .cond rfl gl) :
    Ev P n κ H ρ g (.binOp .mul t x y u) (.int k (k.wrap (p * q))) := by
  intro w a dst ty pos aft gd hm ho hg
  simp only [execOp, hx.eval ho hg, hy.eval ho hg]
  cases k <;> rfl

theorem ev_rem {x y : Operand} {t u : TypeId} {k : IntKind} {p q : Int} (hx : Gets ρ g x (.int k p) := by first | exact .plain rfl | exact .cond rfl id | exact .cond rfl gl) (hy : Gets ρ g y (.int k q) := by first | exact .plain rfl | exact .cond rfl id | exact .cond rfl gl) (hq : g = true → q ≠ 0 := by first | (intro _; decide) | (intro _; omega) | (intro hg; simp at hg; omega)) :
    Ev P n κ H ρ g (.binOp .rem t x y u) (.int k (p.tmod q)) := by
  intro w a dst ty pos aft gd hm ho hg
  have h := hq hg
  simp only [execOp, hx.eval ho hg, hy.eval ho hg]
  cases k <;> (simp only [binOp, eqGuard, Op.intDiv]; simp [go_sem, h])
theorem ev_quo {x y : Operand} {t u : TypeId} {k : IntKind} {p q : Int} (hx : Gets ρ g x (.int k p) := by first | exact .plain rfl | exact .cond rfl id | exact .cond rfl gl) (hy : Gets ρ g y (.int k q) := by first | exact .plain rfl | exact .cond rfl id | exact .cond rfl gl) (hq : g = true → q ≠ 0 := by first | (intro _; decide) | (intro _; omega) | (intro hg; simp at hg; omega)) :
    Ev P n κ H ρ g (.binOp .quo t x y u) (.int k (k.wrap (p.tdiv q))) := by
  intro w a dst ty pos aft gd hm ho hg
  have h := hq hg
  simp only [execOp, hx.eval ho hg, hy.eval ho hg]
  cases k <;> (simp only [binOp, eqGuard, Op.intDiv]; simp [go_sem, h])

theorem ev_lss {x y : Operand} {t u : TypeId} {k : IntKind} {p q : Int} (hx : Gets ρ g x (.int k p) := by first | exact .plain rfl | exact .cond rfl id | exact .cond rfl gl) (hy : Gets ρ g y (.int k q) := by first | exact .plain rfl | exact .cond rfl id | exact .cond rfl gl) :
    Ev P n κ H ρ g (.binOp .lss t x y u) (.bool (decide (p < q))) := by
  intro w a dst ty pos aft gd hm ho hg
  simp only [execOp, hx.eval ho hg, hy.eval ho hg]
  cases k <;> rfl
theorem ev_leq {x y : Operand} {t u : TypeId} {k : IntKind} {p q : Int} (hx : Gets ρ g x (.int k p) := by first | exact .plain rfl | exact .cond rfl id | exact .cond rfl gl) (hy : Gets ρ g y (.int k q) := by first | exact .plain rfl | exact .cond rfl id | exact .cond rfl gl) :
    Ev P n κ H ρ g (.binOp .leq t x y u) (.bool (decide (p ≤ q))) := by
  intro w a dst ty pos aft gd hm ho hg
  simp only [execOp, hx.eval ho hg, hy.eval ho hg]
  cases k <;> rfl
theorem ev_gtr {x y : Operand} {t u : TypeId} {k : IntKind} {p q : Int} (hx : Gets ρ g x (.int k p) := by first | exact .plain rfl | exact .cond rfl id | exact .cond rfl gl) (hy : Gets ρ g y (.int k q) := by first | exact .plain rfl | exact .cond rfl id | exact .cond rfl gl) :
    Ev P n κ H ρ g (.binOp .gtr t x y u) (.bool (decide (q < p))) := by
  intro w a dst ty pos aft gd hm ho hg
  simp only [execOp, hx.eval ho hg, hy.eval ho hg]
  cases k <;> rfl
theorem ev_geq {x y : Operand} {t u : TypeId} {k : IntKind} {p q : Int} (hx : Gets ρ g x (.int k p) := by first | exact .plain rfl | exact .cond rfl id | exact .cond rfl gl) (hy : Gets ρ g y (.int k q) := by first | exact .plain rfl | exact .cond rfl id | exact .cond rfl gl) :
    Ev P n κ H ρ g (.binOp .geq t x y u) (.bool (decide (q ≤ p))) := by
  intro w a dst ty pos aft gd hm ho hg
  simp only [execOp, hx.eval ho hg, hy.eval ho hg]
  cases k <;> rfl
theorem ev_eql {x y : Operand} {t u : TypeId} {k : IntKind} {p q : Int} (hx : Gets ρ g x (.int k p) := by first | exact .plain rfl | exact .cond rfl id | exact .cond rfl gl) (hy : Gets ρ g y (.int k q) := by first | exact .plain rfl | exact .cond rfl id | exact .cond rfl gl) :
    Ev P n κ H ρ g (.binOp .eql t x y u) (.bool (decide (p = q))) := by
  intro w a dst ty pos aft gd hm ho hg
  have h : (p == q) = decide (p = q) := by by_cases e : p = q <;> simp [e]
  simp only [execOp, hx.eval ho hg, hy.eval ho hg]
  cases k <;> (show Result.ok (Next.value (.bool (p == q))) w = _; rw [h])
theorem ev_neq {x y : Operand} {t u : TypeId} {k : IntKind} {p q : Int} (hx : Gets ρ g x (.int k p) := by first | exact .plain rfl | exact .cond rfl id | exact .cond rfl gl) (hy : Gets ρ g y (.int k q) := by first | exact .plain rfl | exact .cond rfl id | exact .cond rfl gl) :
    Ev P n κ H ρ g (.binOp .neq t x y u) (.bool (decide (p ≠ q))) := by
  intro w a dst ty pos aft gd hm ho hg
  have h : (p != q) = decide (p ≠ q) := by by_cases e : p = q <;> simp [e]
  simp only [execOp, hx.eval ho hg, hy.eval ho hg]
  cases k <;> (show Result.ok (Next.value (.bool (p != q))) w = _; rw [h])

theorem ev_not {x : Operand} {t : TypeId} {b : Bool} (hx : Gets ρ g x (.bool b) := by first | exact .plain rfl | exact .cond rfl id | exact .cond rfl gl) : Ev P n κ H ρ g (.unOp .not t x) (.bool (!b)) := by
  intro w a dst ty pos aft gd hm ho hg
  simp only [execOp, hx.eval ho hg]; rfl
theorem ev_neg {x : Operand} {t : TypeId} {p : Int} (hx : Gets ρ g x (.int .i64 p) := by first | exact .plain rfl | exact .cond rfl id | exact .cond rfl gl) (hr : g = true → I64 (-p) := by first | (intro _; unfold I64; omega) | (intro hg; simp at hg; unfold I64; omega)) : Ev P n κ H ρ g (.unOp .neg t x) (.int .i64 (-p)) := by
  intro w a dst ty pos aft gd hm ho hg
  have h := i64_wrap (hr hg).1 (hr hg).2
  simp only [execOp, hx.eval ho hg]
  show Result.ok (Next.value (.int .i64 (IntKind.i64.wrap (0 - p)))) w = _
  rw [Int.zero_sub, h]

/-! tuples, strings, lengths -/

theorem ev_extract {x : Operand} {vs : List Value} {i : Nat} {v : Value} (hx : Gets ρ g x (.tuple vs.toArray) := by first | exact .plain rfl | exact .cond rfl id | exact .cond rfl gl) (hv : vs[i]? = some v := by rfl) : Ev P n κ H ρ g (.extract x i) v := by
  intro w a dst ty pos aft gd hm ho hg
  simp only [execOp, hx.eval ho hg, Instr.extract]
  simp [hv, go_sem]

def isSliceT (P : Program) (t : TypeId) : Bool := match P.underlying t with | some (.slice _) => true | _ => false
def isStringT (P : Program) (t : TypeId) : Bool := match P.underlying t with | some .string => true | _ => false

theorem run_bind_ok {α β : Type} {x : Sem α} {f : α → Sem β} {w w' : World} {a : α} (h : x.run P w = .ok a w') : (x >>= f).run P w = (f a).run P w' := by
  show (Sem.bind x f).run P w = _
  induction x generalizing w with
  | pure b => simp only [Sem.run, Result.ok.injEq] at h; obtain ⟨rfl, rfl⟩ := h; rfl
  | halt h' => simp [Sem.run] at h
  | load m p k ih =>
    simp only [Sem.run] at h
    simp only [Sem.bind, Sem.run]
    split at h
    · exact ih _ h
    · split at h
      · exact ih _ h
      · simp at h
  | store m p v k ih =>
    cases v <;> simp only [Sem.run] at h <;> simp only [Sem.bind, Sem.run] <;> first
      | (simp at h; done)
      | (split at h
         · split at h
           · simp at h
           · rename_i hf; rw [if_neg hf]; exact ih h
         · split at h
           · exact ih h
           · simp at h)
  | new o k ih => exact ih _ h
  | shape r k ih => exact ih _ h
  | freeze p m k ih => exact ih h
  | frozen p k ih => exact ih _ h
  | getObj r k ih =>
    simp only [Sem.run] at h
    simp only [Sem.bind, Sem.run]
    split at h
    · simp at h
    · exact ih _ h
    · simp at h
  | setObj r o k ih =>
    simp only [Sem.run] at h
    simp only [Sem.bind, Sem.run]
    split at h
    · simp at h
    · exact ih h
    · simp at h
  | choose q k ih =>
    simp only [Sem.run] at h
    simp only [Sem.bind, Sem.run]
    split at h
    · rename_i hf; rw [if_pos hf]; exact ih _ h
    · rename_i hf; rw [if_neg hf]; exact ih _ h
  | sys c k ih => exact ih _ h
  | program k ih => exact ih _ h
  | mark m k ih => exact ih h

theorem run_under {t : TypeId} {d : TypeDesc} (hu : P.underlying t = some d) (w : World) : (underlying t).run P w = .ok d w := by
  show (Sem.bind (Sem.program .pure) _).run P w = _
  simp only [Sem.bind, Sem.run, hu]
  rfl

theorem run_info {t : TypeId} {d : TypeInfo} (hu : P.info? t = some d) (w : World) : (typeInfo t).run P w = .ok d w := by
  show (Sem.bind (Sem.program .pure) _).run P w = _
  simp only [Sem.bind, Sem.run, hu]
  rfl

theorem run_size {t : TypeId} {d : TypeInfo} (hu : P.info? t = some d) (w : World) : (sizeOf t).run P w = .ok d.size w := by
  unfold sizeOf
  rw [run_bind_ok (run_info hu w)]
  rfl

/-- What an operation that is one value's reckoning does. -/
theorem run_value {s : Sem Value} {w w' : World} {v : Value} (h : s.run P w = .ok v w') : (s >>= fun v => (pure (Next.value v) : Sem Next)).run P w = .ok (.value v) w' := by
  rw [run_bind_ok h]
  rfl

theorem exec_builtin1 (ev : Operand → Value) (b : Builtin) (x : Operand) (ts : Array TypeId) (dst : Option Tmp) (ty : TypeId) (pos : String) (aft : Array Edge) (gd : Option (Nat × Bool)) :
    ∃ cs, execOp ev ⟨dst, .call { callee := .builtin b, args := #[x], argTypes := ts }, ty, pos, aft, gd⟩ = builtin b ts ty cs #[ev x] := by
  refine ⟨#[x].map fun | .const _ => true | _ => false, ?_⟩
  simp only [execOp, resolve, List.map_toArray, List.map_cons, List.map_nil]
  rfl

theorem exec_builtin2 (ev : Operand → Value) (b : Builtin) (x y : Operand) (ts : Array TypeId) (dst : Option Tmp) (ty : TypeId) (pos : String) (aft : Array Edge) (gd : Option (Nat × Bool)) :
    ∃ cs, execOp ev ⟨dst, .call { callee := .builtin b, args := #[x, y], argTypes := ts }, ty, pos, aft, gd⟩ = builtin b ts ty cs #[ev x, ev y] := by
  refine ⟨#[x, y].map fun | .const _ => true | _ => false, ?_⟩
  simp only [execOp, resolve, List.map_toArray, List.map_cons, List.map_nil]
  rfl

theorem ev_len {x : Operand} {t : TypeId} {ad : Option Addr} {m c : Nat} (hx : Gets ρ g x (.slice ad m c) := by first | exact .plain rfl | exact .cond rfl id | exact .cond rfl gl) (ht : isSliceT P t = true := by kernel_rfl) :
    Ev P n κ H ρ g (.call { callee := .builtin .len, args := #[x], argTypes := #[t] }) (.int .i64 (m : Int)) := by
  intro w a dst ty pos aft gd hm ho hg
  have e := hx.eval ho hg
  obtain ⟨cs, hc⟩ := exec_builtin1 a.eval .len x #[t] dst ty pos aft gd
  unfold isSliceT at ht
  split at ht
  · rename_i el hu
    rw [hc, e]
    refine run_value (s := Builtin.len_ #[t] ty #[.slice ad m c]) ?_
    show (underlying t >>= _).run P w = _
    rw [run_bind_ok (run_under hu w)]
    rfl
  · cases ht

theorem ev_len_str {x : Operand} {t : TypeId} {s : ByteArray} (hx : Gets ρ g x (.string s) := by first | exact .plain rfl | exact .cond rfl id | exact .cond rfl gl) (ht : isStringT P t = true := by kernel_rfl) :
    Ev P n κ H ρ g (.call { callee := .builtin .len, args := #[x], argTypes := #[t] }) (.int .i64 (s.size : Int)) := by
  intro w a dst ty pos aft gd hm ho hg
  have e := hx.eval ho hg
  obtain ⟨cs, hc⟩ := exec_builtin1 a.eval .len x #[t] dst ty pos aft gd
  unfold isStringT at ht
  split at ht
  · rename_i hu
    rw [hc, e]
    refine run_value (s := Builtin.len_ #[t] ty #[.string s]) ?_
    show (underlying t >>= _).run P w = _
    rw [run_bind_ok (run_under hu w)]
    rfl
  · cases ht

/-! addresses -/

/-- The place of a field: its offset in cells. -/
def fieldOff (P : Program) (s : TypeId) (i : Nat) : Option Nat :=
  match P.underlying s with
  | some (.struct fs) => match fs[i]? with
    | some f => match P.info? f.type with
      | some ti => if ti.size = 0 then none else some f.offset
      | none => none
    | none => none
  | _ => none

theorem ev_field_addr {x : Operand} {s i b o : Nat} (off : Nat) (hx : Gets ρ g x (.pointer (some ⟨b, o, none⟩)) := by first | exact .plain rfl | exact .cond rfl id | exact .cond rfl gl) (hf : fieldOff P s i = some off := by kernel_rfl) :
    Ev P n κ H ρ g (.fieldAddr s x i) (.pointer (some ⟨b, o + off, none⟩)) := by
  intro w a dst ty pos aft gd hm ho hg
  have e := hx.eval ho hg
  unfold fieldOff at hf
  split at hf
  · rename_i fs hu
    split at hf
    · rename_i f hfi
      split at hf
      · rename_i ti hti
        split at hf
        · cases hf
        · rename_i hsz
          simp at hf
          subst hf
          show (Instr.fieldAt s (a.eval x) i >>= fun v => pure (Next.value v)).run P w = _
          rw [e]
          refine run_value ?_
          unfold Instr.fieldAt
          rw [run_bind_ok (run_under hu w)]
          simp only [hfi]
          show (fieldPlace ⟨b, o, none⟩ f >>= fun r => pure (Value.pointer (some r))).run P w = _
          have hp : (fieldPlace ⟨b, o, none⟩ f).run P w = .ok ⟨b, o + f.offset, none⟩ w := by
            unfold fieldPlace
            rw [run_bind_ok (run_size hti w), if_neg hsz]
            by_cases h0 : f.offset = 0
            · simp [Addr.add, h0, go_sem]
            · simp [Addr.add, h0, go_sem]
          rw [run_bind_ok hp]
          rfl
      · cases hf
    · cases hf
  · cases hf

/-- The number of cells of an element of a slice type. -/
def elemSize (P : Program) (t : TypeId) : Option Nat :=
  match P.underlying t with
  | some (.slice e) => (P.info? e).map (·.size)
  | _ => none

theorem ev_index_addr {x y : Operand} {t b o m c : Nat} {k : IntKind} {i : Int} (sz : Nat) (hx : Gets ρ g x (.slice (some ⟨b, o, none⟩) m c) := by first | exact .plain rfl | exact .cond rfl id | exact .cond rfl gl) (hy : Gets ρ g y (.int k i) := by first | exact .plain rfl | exact .cond rfl id | exact .cond rfl gl)
    (hs : elemSize P t = some sz := by kernel_rfl) (hi : g = true → 0 ≤ i ∧ i < (m : Int) := by first | (intro _; omega) | (intro hg; simp at hg; omega)) :
    Ev P n κ H ρ g (.indexAddr t x y) (.pointer (some ⟨b, o + i.toNat * sz, none⟩)) := by
  intro w a dst ty pos aft gd hm ho hg
  have e1 := hx.eval ho hg
  have e2 := hy.eval ho hg
  have hb := hi hg
  unfold elemSize at hs
  split at hs
  · rename_i el hu
    cases hti : P.info? el with
    | none => rw [hti] at hs; cases hs
    | some ti =>
      rw [hti] at hs
      simp at hs
      subst hs
      show (Instr.indexAt t (a.eval x) (a.eval y) >>= fun v => pure (Next.value v)).run P w = _
      rw [e1, e2]
      refine run_value ?_
      unfold Instr.indexAt
      show (underlying t >>= _).run P w = _
      rw [run_bind_ok (run_under hu w)]
      show (underlying t >>= _).run P w = _
      rw [run_bind_ok (run_under hu w)]
      simp only [hb, and_self, if_true]
      rw [run_bind_ok (run_size hti w)]
      show Result.ok (Value.pointer (some (Addr.add ⟨b, o, none⟩ (i.toNat * ti.size)))) w = _
      by_cases h0 : i.toNat * ti.size = 0
      · simp [Addr.add, h0]
      · simp only [Addr.add, h0, if_false]
  · cases hs

/-! loads -/

def oneT (P : Program) (t : TypeId) : Bool :=
  match P.underlying t with
  | some (.struct _) | some (.array _ _) | none => false
  | _ => true

theorem run_isAgg_false {t : TypeId} (h : oneT P t = true) (w : World) : (isAgg t).run P w = .ok false w := by
  unfold oneT at h
  cases hu : P.underlying t with
  | none => rw [hu] at h; cases h
  | some d =>
    rw [hu] at h
    unfold isAgg
    rw [run_bind_ok (run_under hu w)]
    cases d <;> first | rfl | cases h

theorem run_loadVar_one {t : TypeId} {p : Addr} {v : Value} {w : World} (ht : oneT P t = true) (hc : w.cell? p = some v) : (loadVar t p).run P w = .ok v w := by
  unfold loadVar
  rw [run_bind_ok (run_isAgg_false ht w)]
  show (load p).run P w = _
  simp [load, Sem.run, hc]

theorem ev_load_cell {x : Operand} {t : TypeId} {p : Addr} {v : Value} (hx : Gets ρ g x (.pointer (some p)) := by first | exact .plain rfl | exact .cond rfl id | exact .cond rfl gl) (ht : oneT P t = true)
    (hc : g = true → ∀ w, Mem κ H w → w.cell? p = some v) : Ev P n κ H ρ g (.load t x) v := by
  intro w a dst ty pos aft gd hm ho hg
  have e := hx.eval ho hg
  show (Instr.loadAt t (a.eval x) >>= fun v => pure (Next.value v)).run P w = _
  rw [e]
  exact run_value (s := loadVar t p) (run_loadVar_one ht (hc hg w hm))

theorem own_cell {b T : Nat} {l : List Value} {w : World} {o : Nat} {v : Value} (h : w.heap[b]? = some (.cells l.toArray T (0, 0))) (hv : l[o]? = some v) : w.cell? ⟨b, o, none⟩ = some v := by
  simp [World.cell?, h, hv]

theorem ev_load_own {x : Operand} {t b o T : Nat} {l : List Value} {v : Value} (hx : Gets ρ g x (.pointer (some ⟨b, o, none⟩)) := by first | exact .plain rfl | exact .cond rfl id | exact .cond rfl gl) (hh : Has H (own b T l) := by repeat (first | exact Has.head | apply Has.tail)) (hv : l[o]? = some v := by rfl)
    (ht : oneT P t = true := by kernel_rfl) : Ev P n κ H ρ g (.load t x) v :=
  ev_load_cell hx ht fun _ _ hm => own_cell (hh.own hm) hv

def aggT (P : Program) (t : TypeId) : Option Nat :=
  match P.underlying t with
  | some (.struct _) | some (.array _ _) => (P.info? t).map (·.size)
  | _ => none

theorem run_loadCellsFrom {p : Addr} {w : World} : ∀ (m i : Nat) (acc : Array Value) (l : List Value), l.length = m → (∀ j v, l[j]? = some v → w.cell? (p.add (i + j)) = some v) →
    (loadCellsFrom p i m acc).run P w = .ok (acc ++ l.toArray) w
  | 0, i, acc, l, hl, _ => by
    have : l = [] := List.length_eq_zero_iff.1 hl
    subst this
    simp [loadCellsFrom, go_sem]
  | m + 1, i, acc, l, hl, hc => by
    match l, hl with
    | v :: l, hl =>
      have h0 := hc 0 v (by simp)
      have ih := run_loadCellsFrom m (i + 1) (acc.push v) l (by simpa using hl) (fun j u hu => by
        have := hc (j + 1) u (by simpa using hu)
        rw [show i + 1 + j = i + (j + 1) by omega]; exact this)
      simp only [Nat.add_zero] at h0
      show (Sem.load _ _ _).run P w = _
      simp only [Sem.run, h0]
      show (loadCellsFrom p (i + 1) m (acc.push v)).run P w = _
      rw [ih]
      simp

theorem run_loadVar_agg {t m : Nat} {p : Addr} {l : List Value} {w : World} (ht : aggT P t = some m) (hl : l.length = m) (hc : ∀ j v, l[j]? = some v → w.cell? (p.add j) = some v) :
    (loadVar t p).run P w = .ok (.agg l.toArray) w := by
  unfold aggT at ht
  have key : ∀ d, P.underlying t = some d → (d matches .struct _ | .array _ _) → (P.info? t).map (·.size) = some m → (loadVar t p).run P w = .ok (.agg l.toArray) w := by
    intro d hu hd hs
    cases hti : P.info? t with
    | none => rw [hti] at hs; cases hs
    | some ti =>
      rw [hti] at hs
      simp at hs
      subst hs
      have hx := run_loadCellsFrom (P := P) (p := p) (w := w) ti.size 0 #[] l hl (fun j v hv => by rw [Nat.zero_add]; exact hc j v hv)
      have ha : (isAgg t).run P w = .ok true w := by
        unfold isAgg
        rw [run_bind_ok (run_under hu w)]
        cases d <;> first | rfl | (cases hd; done)
      unfold loadVar
      rw [run_bind_ok ha]
      simp only [if_true]
      rw [run_bind_ok (run_size hti w)]
      have hx' : (loadCells p ti.size).run P w = .ok l.toArray w := by rw [loadCells, hx]; simp
      rw [run_bind_ok hx']
      rfl
  split at ht
  · rename_i hu; exact key _ hu rfl ht
  · rename_i hu; exact key _ hu rfl ht
  · cases ht

theorem ev_load_agg {x : Operand} {t m : Nat} {p : Addr} {l : List Value} (hx : Gets ρ g x (.pointer (some p)) := by first | exact .plain rfl | exact .cond rfl id | exact .cond rfl gl) (ht : aggT P t = some m) (hl : l.length = m)
    (hc : g = true → ∀ w, Mem κ H w → ∀ j v, l[j]? = some v → w.cell? (p.add j) = some v) : Ev P n κ H ρ g (.load t x) (.agg l.toArray) := by
  intro w a dst ty pos aft gd hm ho hg
  have e := hx.eval ho hg
  show (Instr.loadAt t (a.eval x) >>= fun v => pure (Next.value v)).run P w = _
  rw [e]
  exact run_value (s := loadVar t p) (run_loadVar_agg ht hl (hc hg w hm))

/-- A whole struct out of a block of its own. -/
theorem ev_load_all {x : Operand} {t b T m : Nat} {l : List Value} (hx : Gets ρ g x (.pointer (some ⟨b, 0, none⟩)) := by first | exact .plain rfl | exact .cond rfl id | exact .cond rfl gl) (hh : Has H (own b T l) := by repeat (first | exact Has.head | apply Has.tail)) (hl : l.length = m := by rfl)
    (ht : aggT P t = some m := by kernel_rfl) : Ev P n κ H ρ g (.load t x) (.agg l.toArray) :=
  ev_load_agg hx ht hl fun _ _ hm j v hv => by
    have := own_cell (hh.own hm) hv
    by_cases h0 : j = 0
    · subst h0; exact this
    · simp only [Addr.add, h0, if_false, Nat.zero_add]; exact this

/-! building values -/

/-- The cells of a struct value out of its parts, all of which are given in order. -/
theorem ev_build_of {t : TypeId} {parts : List (Nat × Operand)} {l : List Value} {vs : List (Nat × Value)}
    (hv : g = true → ∀ a, Ok n ρ a → parts.map (fun p => (p.1, a.eval p.2)) = vs) (hb : ∀ w, (Instr.build t vs.toArray).run P w = .ok (.agg l.toArray) w) :
    Ev P n κ H ρ g (.build t parts.toArray) (.agg l.toArray) := by
  intro w a dst ty pos aft gd hm ho hg
  have e := hv hg a ho
  show (Instr.build t (parts.toArray.map fun (i, x) => (i, a.eval x)) >>= fun v => pure (Next.value v)).run P w = _
  refine run_value ?_
  have : (parts.toArray.map fun (i, x) => (i, a.eval x)) = vs.toArray := by rw [← e]; simp
  rw [this]
  exact hb w

/-! ### Effects -/
variable {C : Env → List Chunk → Prop}

theorem st_box {x : Operand} {T d : Nat} {ty : TypeId} {pos : String} {aft : Array Edge} {gd : Option (Nat × Bool)} {l : List Value} (hx : Gets ρ true x (.agg l.toArray) := by first | exact .plain rfl | exact .cond rfl id | exact .cond rfl gl)
    (k : ∀ b, C ((d, .v (.pointer (some ⟨b, 0, none⟩))) :: ρ) (own b T l :: H)) (hd : Nat.blt d n = true := by rfl) : StepO P n κ ⟨some d, .box T x, ty, pos, aft, gd⟩ ρ H C := by
  intro K Q hs w a hm ho
  have e := hx.eval ho rfl
  have hr : (execOp a.eval ⟨some d, .box T x, ty, pos, aft, gd⟩).run P w = .ok (.value (.pointer (some ⟨w.heap.size, 0, none⟩))) (w.alloc (.cells l.toArray T)) := by
    show (Instr.box T (a.eval x) >>= fun v => pure (Next.value v)).run P w = _
    rw [e]
    rfl
  unfold Oper.wp
  rw [hr]
  exact hs _ _ (k w.heap.size) _ _ (hm.alloc l T) (ho.put (by simpa [Nat.blt_eq] using hd) rfl)

/-- A box of a value of one cell. -/
theorem st_box1 {x : Operand} {T d : Nat} {ty : TypeId} {pos : String} {aft : Array Edge} {gd : Option (Nat × Bool)} {v : Value} (hx : Gets ρ true x v := by first | exact .plain rfl | exact .cond rfl id | exact .cond rfl gl) (h1 : v.oneCell' = true)
    (k : ∀ b, C ((d, .v (.pointer (some ⟨b, 0, none⟩))) :: ρ) (own b T [v] :: H)) (hd : Nat.blt d n = true := by rfl) : StepO P n κ ⟨some d, .box T x, ty, pos, aft, gd⟩ ρ H C := by
  intro K Q hs w a hm ho
  have e := hx.eval ho rfl
  have hc : v.cells = [v].toArray := by cases v <;> first | rfl | cases h1
  have hr : (execOp a.eval ⟨some d, .box T x, ty, pos, aft, gd⟩).run P w = .ok (.value (.pointer (some ⟨w.heap.size, 0, none⟩))) (w.alloc (.cells [v].toArray T)) := by
    show (Instr.box T (a.eval x) >>= fun v => pure (Next.value v)).run P w = _
    rw [e, ← hc]
    rfl
  unfold Oper.wp
  rw [hr]
  exact hs _ _ (k w.heap.size) _ _ (hm.alloc [v] T) (ho.put (by simpa [Nat.blt_eq] using hd) rfl)

/-- The zero value's cells of a type. -/
def zeroT (P : Program) (t : TypeId) : Option (List Value) := ((P.info? t).bind (·.zero)).map (·.cells.toList)

theorem st_alloc {T d : Nat} {ty : TypeId} {pos : String} {aft : Array Edge} {gd : Option (Nat × Bool)} {l : List Value} (hz : zeroT P T = some l)
    (k : ∀ b, C ((d, .v (.pointer (some ⟨b, 0, none⟩))) :: ρ) (own b T l :: H)) (hd : Nat.blt d n = true := by rfl) : StepO P n κ ⟨some d, .alloc T, ty, pos, aft, gd⟩ ρ H C := by
  intro K Q hs w a hm ho
  unfold zeroT at hz
  cases hi : P.info? T with
  | none => rw [hi] at hz; cases hz
  | some i =>
    cases hzz : i.zero with
    | none => rw [hi] at hz; simp [hzz] at hz
    | some z =>
      rw [hi] at hz
      simp [hzz] at hz
      have hzr : (zeroValue T).run P w = .ok z w := by
        unfold zeroValue
        rw [run_bind_ok (run_info hi w)]
        simp only [hzz]
        rfl
      have hr : (execOp a.eval ⟨some d, .alloc T, ty, pos, aft, gd⟩).run P w = .ok (.value (.pointer (some ⟨w.heap.size, 0, none⟩))) (w.alloc (.cells l.toArray T)) := by
        show (Instr.alloc T true (.tuple #[]) >>= fun v => pure (Next.value v)).run P w = _
        refine run_value ?_
        unfold Instr.alloc
        rw [run_bind_ok hzr]
        have : z.cells = l.toArray := by rw [← hz]
        show (do pure (Value.pointer (some (← newVar T z))) : Sem Value).run P w = _
        unfold newVar
        rw [this]
        rfl
      unfold Oper.wp
      rw [hr]
      exact hs _ _ (k w.heap.size) _ _ (hm.alloc l T) (ho.put (by simpa [Nat.blt_eq] using hd) rfl)

theorem heap_setCell_own {w : World} {b T o : Nat} {l : List Value} {v : Value} (h : w.heap[b]? = some (.cells l.toArray T (0, 0))) : (w.setCell ⟨b, o, none⟩ v).heap[b]? = some (.cells (l.set o v).toArray T (0, 0)) := by
  simp [World.setCell, Array.getElem?_modify, h]

theorem Frame.setCell {w : World} {b o : Nat} {v : Value} : Frame (fun k => k = b) w (w.setCell ⟨b, o, none⟩ v) :=
  ⟨rfl, rfl, rfl, by simp [World.setCell], fun k _ hn => Below.heap_setCell _ _ _ _ hn⟩

/-- Cells, one behind the other, into a block of the call's own. -/
def setAll : List Value → Nat → List Value → List Value
  | l, _, [] => l
  | l, o, v :: vs => setAll (l.set o v) (o + 1) vs

theorem run_storeCells {b T : Nat} : ∀ (vs : List Value) (i : Nat) (o : Nat) (l : List Value) (w : World), w.heap[b]? = some (.cells l.toArray T (0, 0)) → o + i + vs.length ≤ l.length → (∀ v ∈ vs, v.oneCell' = true) →
    ∃ w', (storeCells ⟨b, o, none⟩ vs i).run P w = .ok () w' ∧ Frame (fun k => k = b) w w' ∧ w'.heap.size = w.heap.size ∧ w'.heap[b]? = some (.cells (setAll l (o + i) vs).toArray T (0, 0))
  | [], i, o, l, w, h, _, _ => ⟨w, rfl, Frame.refl _ _, rfl, h⟩
  | v :: vs, i, o, l, w, h, hl, h1 => by
    simp only [List.length_cons] at hl
    have hc : w.cell? ⟨b, o + i, none⟩ = some (l[o + i]'(by omega)) := own_cell h (by simp)
    have hadd : Addr.add ⟨b, o, none⟩ i = ⟨b, o + i, none⟩ := by
      by_cases h0 : i = 0
      · simp [Addr.add, h0]
      · simp [Addr.add, h0]
    have hfz : w.frozen? ⟨b, o + i, none⟩ = false := by
      have h' : w.heap[b]? = some (.cells l.toArray T (0, 0)) := h
      simp [World.frozen?, h']
    have hv := h1 v List.mem_cons_self
    obtain ⟨w', hr, hf, hsz, ho⟩ := run_storeCells vs (i + 1) o (l.set (o + i) v) (w.setCell ⟨b, o + i, none⟩ v) (heap_setCell_own h) (by simp; omega) (fun u hu => h1 u (List.mem_cons_of_mem _ hu))
    refine ⟨w', ?_, (Frame.setCell).trans hf, hsz.trans (by simp [World.setCell]), by rw [show o + (i + 1) = o + i + 1 by omega] at ho; exact ho⟩
    have hst : (store (Addr.add ⟨b, o, none⟩ i) v).run P w = .ok () (w.setCell ⟨b, o + i, none⟩ v) := by
      rw [hadd]
      cases v <;> first
        | (simp [Value.oneCell'] at hv; done)
        | (simp only [store, Sem.run, hc, hfz]; rfl)
    show (store _ _ >>= fun _ => storeCells ⟨b, o, none⟩ vs (i + 1)).run P w = _
    rw [run_bind_ok hst]
    exact hr

theorem st_store_own {x y : Operand} {t b o T m : Nat} {ty : TypeId} {pos : String} {aft : Array Edge} {gd : Option (Nat × Bool)} {l l' vs : List Value} {v : Value} {H' : List Chunk}
    (hx : Gets ρ true x (.pointer (some ⟨b, o, none⟩)) := by first | exact .plain rfl | exact .cond rfl id | exact .cond rfl gl) (hy : Gets ρ true y v := by first | exact .plain rfl | exact .cond rfl id | exact .cond rfl gl) (hvs : v.cells = vs.toArray := by rfl)
    (hlen : vs.length = m := by rfl) (hu : Upd H (own b T l) (own b T l') H' := by repeat (first | exact Upd.head | apply Upd.tail))
    (hl0 : Nat.ble (o + m) l.length = true := by rfl) (h10 : vs.all Value.oneCell' = true := by rfl) (he : setAll l o vs = l' := by rfl)
    (ht : P.cellsOf t = m := by kernel_rfl) (hti : (P.info? t).isSome = true := by kernel_rfl) (k : C ρ H') : StepO P n κ ⟨none, .store t x y, ty, pos, aft, gd⟩ ρ H C := by
  have hl : o + m ≤ l.length := by simpa [Nat.ble_eq] using hl0
  have h1 : ∀ v ∈ vs, v.oneCell' = true := List.all_eq_true.1 h10
  intro K Q hs w a hm ho
  have e1 := hx.eval ho rfl
  have e2 := hy.eval ho rfl
  subst he
  cases hi : P.info? t with
  | none => rw [hi] at hti; cases hti
  | some i =>
    have hsz : i.size = m := by simpa [Program.cellsOf, hi] using ht
    obtain ⟨w', hr, hf, hsz', ho'⟩ := run_storeCells (P := P) vs 0 o l w (hu.has.own hm) (by omega) h1
    have hrun : (execOp a.eval ⟨none, .store t x y, ty, pos, aft, gd⟩).run P w = .ok .skip w' := by
      show ((Instr.storeAt t (a.eval x) (a.eval y)) >>= fun _ => pure Next.skip).run P w = _
      rw [e1, e2]
      have : (Instr.storeAt t (.pointer (some ⟨b, o, none⟩)) v).run P w = .ok () w' := by
        show (storeVar t ⟨b, o, none⟩ v).run P w = _
        unfold storeVar
        rw [run_bind_ok (run_size hi w), hvs]
        have hsz2 : ¬ (vs.toArray.size ≠ i.size) := by simp [hlen, hsz]
        simp only [hsz2, if_false]
        exact hr
      rw [run_bind_ok this]
      rfl
    unfold Oper.wp
    rw [hrun]
    obtain ⟨S, hms⟩ := hm
    have hin := (hms.all _ hu.has.mem).2
    refine hs _ _ k w' _ ⟨S, hms.upd hu hf (fun _ h => h) (fun _ h => .inl h) (fun k hk => by rw [hsz']; exact hms.lt k hk) ho' (fun k hk => ?_)⟩ ho
    have : k = b := hk
    subst this
    exact ⟨.inl rfl, by rw [hsz']; exact (hin k rfl).1, (hin k rfl).2.1⟩

theorem setAll_whole : ∀ (vs l pre : List Value), l.length = vs.length → setAll (pre ++ l) pre.length vs = pre ++ vs
  | [], l, pre, h => by
    have : l = [] := List.length_eq_zero_iff.1 h
    subst this; rfl
  | v :: vs, [], pre, h => by simp at h
  | v :: vs, u :: l, pre, h => by
    have ih := setAll_whole vs l (pre ++ [v]) (by simpa using h)
    simp only [setAll]
    have e : (pre ++ u :: l).set pre.length v = (pre ++ [v]) ++ l := by simp
    rw [e]
    simpa using ih

/-- A whole block is written anew. -/
theorem st_store_all {x y : Operand} {t b T m : Nat} {ty : TypeId} {pos : String} {aft : Array Edge} {gd : Option (Nat × Bool)} {l vs : List Value} {v : Value} {H' : List Chunk}
    (hx : Gets ρ true x (.pointer (some ⟨b, 0, none⟩)) := by first | exact .plain rfl | exact .cond rfl id | exact .cond rfl gl) (hy : Gets ρ true y v := by first | exact .plain rfl | exact .cond rfl id | exact .cond rfl gl) (hvs : v.cells = vs.toArray := by rfl)
    (hlen : vs.length = m := by rfl) (hu : Upd H (own b T l) (own b T vs) H' := by repeat (first | exact Upd.head | apply Upd.tail))
    (hl : l.length = m := by rfl) (h10 : vs.all Value.oneCell' = true := by rfl)
    (ht : P.cellsOf t = m := by kernel_rfl) (hti : (P.info? t).isSome = true := by kernel_rfl) (k : C ρ H') : StepO P n κ ⟨none, .store t x y, ty, pos, aft, gd⟩ ρ H C :=
  st_store_own (k := k) (hx := hx) (hy := hy) (hvs := hvs) (hlen := hlen) (hu := hu) (hl0 := by rw [Nat.ble_eq]; omega) (h10 := h10)
    (he := setAll_whole vs l [] (by omega)) (ht := ht) (hti := hti)

/-! ### Calls -/

def callable (P : Program) (f : FuncId) : Bool :=
  match P.funcs[f]? with
  | some fn => (fn.name != "runtime.NumGoroutine") && fn.body.isSome
  | none => false

/-- The operands' values. -/
inductive GetsAll (ρ : Env) : List Operand → List Value → Prop
  | nil : GetsAll ρ [] []
  | cons {x : Operand} {v : Value} {xs : List Operand} {vs : List Value} : Gets ρ true x v → GetsAll ρ xs vs → GetsAll ρ (x :: xs) (v :: vs)

theorem GetsAll.eval {xs : List Operand} {vs : List Value} {a : Act} (h : GetsAll ρ xs vs) (ho : Ok n ρ a) : xs.map a.eval = vs := by
  induction h with
  | nil => rfl
  | cons h _ ih => simp [h.eval ho rfl, ih]

theorem run_callFunc {f : FuncId} {vs : Array Value} {w : World} (hf : callable P f = true) : (callFunc f vs).run P w = .ok (.enter f vs) w := by
  unfold callable at hf
  cases hp : P.funcs[f]? with
  | none => rw [hp] at hf; cases hf
  | some fn =>
    rw [hp] at hf
    simp only [Bool.and_eq_true, bne_iff_ne, ne_eq] at hf
    unfold callFunc
    show (Sem.bind (Sem.program .pure) _).run P w = _
    simp only [Sem.bind, Sem.run, hp]
    have h1 : (fn.name == "runtime.NumGoroutine") = false := by simpa using hf.1
    have h2 : fn.body.isNone = false := by cases hb : fn.body <;> simp_all
    rw [h1, h2]
    rfl

theorem exec_call (ev : Operand → Value) (f : FuncId) (xs : List Operand) (ts : Array TypeId) (dst : Option Tmp) (ty : TypeId) (pos : String) (aft : Array Edge) (gd : Option (Nat × Bool)) :
    execOp ev ⟨dst, .call { callee := .value (.func f), args := xs.toArray, argTypes := ts }, ty, pos, aft, gd⟩ = (resolve ev { callee := .value (.func f), args := xs.toArray, argTypes := ts } ty >>= fun d => invoke d.target d.args) := rfl

theorem st_call {f d : Nat} {xs : List Operand} {vs : List Value} {ts : Array TypeId} {ty : TypeId} {pos : String} {aft : Array Edge} {gd : Option (Nat × Bool)} (ha : GetsAll ρ xs vs)
    (hc : ∀ w, Mem κ H w → Calls P f vs.toArray w fun e w' => ∃ v H', e = .returned v ∧ Mem κ H' w' ∧ C ((d, .v v) :: ρ) H')
    (hd : Nat.blt d n = true := by rfl) (hf : callable P f = true := by kernel_rfl) : StepO P n κ ⟨some d, .call { callee := .value (.func f), args := xs.toArray, argTypes := ts }, ty, pos, aft, gd⟩ ρ H C := by
  intro K Q hs w a hm ho
  have e := ha.eval ho
  have hrun : (execOp a.eval ⟨some d, .call { callee := .value (.func f), args := xs.toArray, argTypes := ts }, ty, pos, aft, gd⟩).run P w = .ok (.enter f vs.toArray) w := by
    simp only [execOp, resolve, List.map_toArray, e]
    show (callFunc f ((#[] ++ vs.toArray) ++ #[])).run P w = _
    rw [Array.empty_append, Array.append_empty]
    exact run_callFunc hf
  unfold Oper.wp
  rw [hrun]
  refine (hc w hm).mono ?_
  rintro e w' ⟨v, H', rfl, hm', hk⟩
  exact hs _ _ hk w' _ hm' (ho.put (by simpa [Nat.blt_eq] using hd) rfl)
end
end Go.Dc

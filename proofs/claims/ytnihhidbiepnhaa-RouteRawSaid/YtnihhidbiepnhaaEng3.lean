/- Engine, part 3: slices that are read, rows of the call's own, strings, calls under a guard. -/
import Derived.Test.YtnihhidbiepnhaaEng2
import Derived.Laws.OwnMore
import Derived.Laws.MakeOwn
namespace Go.Eng
open Go.RowKit

/-! ### Slices that are read -/

def sb : Option Addr → Nat
  | some p => p.block
  | none => 0
def so : Option Addr → Nat
  | some p => p.off
  | none => 0

/-- The cells l lie behind the slice's address a, in a block from lo up to hi. -/
def Sl (lo hi : Nat) (w : World) (a : Option Addr) (l : List Value) : Prop :=
  ∀ j v, l[j]? = some v → a = some ⟨sb a, so a, none⟩ ∧ lo ≤ sb a ∧ sb a < hi ∧ w.cell? ⟨sb a, so a + j, none⟩ = some v

theorem Sl.nil {lo hi : Nat} {w : World} {a : Option Addr} : Sl lo hi w a [] := fun j v h => by simp at h

theorem Sl.addr {lo hi : Nat} {w : World} {a : Option Addr} {l : List Value} (h : Sl lo hi w a l) (hl : 0 < l.length) : a = some ⟨sb a, so a, none⟩ :=
  (h 0 l[0] (by simp [hl])).1

theorem Sl.mono {lo hi lo' hi' : Nat} {w w' : World} {a : Option Addr} {l : List Value} (h : Sl lo hi w a l) (hlo : lo' ≤ lo) (hhi : hi ≤ hi')
    (hw : ∀ k, lo ≤ k → k < hi → w'.heap[k]? = w.heap[k]?) : Sl lo' hi' w' a l := fun j v hv => by
  obtain ⟨h1, h2, h3, h4⟩ := h j v hv
  exact ⟨h1, by omega, by omega, by rw [World.cell?_of_block (w := w) (hw _ h2 h3)]; exact h4⟩

theorem Sl.below {lo hi B : Nat} {w w' : World} {a : Option Addr} {l : List Value} (h : Sl lo hi w a l) (hb : Below B w w') (hB : hi ≤ B) : Sl lo hi w' a l :=
  h.mono (Nat.le_refl _) (Nat.le_refl _) (fun k _ hk => hb.block k (by omega))

/-- The fact as a chunk. -/
def sl (lo hi : Nat) (a : Option Addr) (l : List Value) : Chunk where
  fp := fun k => lo ≤ k ∧ k < hi
  φ := fun w => Sl lo hi w a l
  dep := fun _ _ h hw => hw.mono (Nat.le_refl _) (Nat.le_refl _) (fun k h1 h2 => h k ⟨h1, h2⟩)

section
variable {P : Program} {n : Nat} {w0 : World} {ρ : Env} {H : List Chunk} {g : Bool}

/-- A cell of old memory. -/
theorem cell_old {a : Option Addr} {l : List Value} {lo hi j : Nat} {v : Value} (hs : Sl lo hi w0 a l) (hj : l[j]? = some v) (hhi : hi ≤ w0.heap.size) (hh : Has H (old w0)) :
    ∀ w, Mem w0 H w → w.cell? ⟨sb a, so a + j, none⟩ = some v := fun w hm => by
  obtain ⟨_, _, h3, h4⟩ := hs j v hj
  rw [(hm.below hh).cell (p := ⟨sb a, so a + j, none⟩) (by show sb a < _; omega)]
  exact h4

theorem cell_sl {a : Option Addr} {l : List Value} {lo hi j : Nat} {v : Value} (hj : l[j]? = some v) (hh : Has H (sl lo hi a l)) :
    ∀ w, Mem w0 H w → w.cell? ⟨sb a, so a + j, none⟩ = some v := fun _ hm => ((hh.φ hm) j v hj).2.2.2

theorem ev_index_addr' {x y : Operand} {t m c : Nat} {ad : Option Addr} {k : IntKind} {i : Int} (sz : Nat) (ha : g = true → ad = some ⟨sb ad, so ad, none⟩)
    (hx : Gets ρ g x (.slice ad m c) := by first | exact .plain rfl | exact .cond rfl id | exact .cond rfl gl) (hy : Gets ρ g y (.int k i) := by first | exact .plain rfl | exact .cond rfl id | exact .cond rfl gl)
    (hs : elemSize P t = some sz := by kernel_rfl) (hi : g = true → 0 ≤ i ∧ i < (m : Int) := by first | (intro _; omega) | (intro hg; simp at hg; omega)) :
    Ev P n w0 H ρ g (.indexAddr t x y) (.pointer (some ⟨sb ad, so ad + i.toNat * sz, none⟩)) := by
  intro w a dst ty pos aft gd hm ho hg
  have e1 := hx.eval ho hg
  rw [ha hg] at e1
  have hadm := ha hg
  have e2 := hy.eval ho hg
  have hb := hi hg
  unfold elemSize at hs
  split at hs
  · rename_i el hu
    cases hti : P.info? el with
    | none => rw [hti] at hs; cases hs
    | some ti =>
      rw [hti] at hs
      simp at hs
      subst hs
      show (Instr.indexAt t (a.eval x) (a.eval y) >>= fun v => pure (Next.value v)).run P w = _
      rw [e1, e2]
      refine run_value ?_
      unfold Instr.indexAt
      show (underlying t >>= _).run P w = _
      rw [run_bind_ok (run_under hu w)]
      show (underlying t >>= _).run P w = _
      rw [run_bind_ok (run_under hu w)]
      simp only [hb, and_self, if_true]
      rw [run_bind_ok (run_size hti w)]
      show Result.ok (Value.pointer (some (Addr.add ⟨sb ad, so ad, none⟩ (i.toNat * ti.size)))) w = _
      by_cases h0 : i.toNat * ti.size = 0
      · simp [Addr.add, h0]
      · simp only [Addr.add, h0, if_false]
  · cases hs

/-- A load of one cell, by a fact on every world. -/
theorem ev_load_at {x : Operand} {t : TypeId} {p : Addr} {v : Value} (hc : ∀ w, Mem w0 H w → w.cell? p = some v)
    (hx : Gets ρ g x (.pointer (some p)) := by first | exact .plain rfl | exact .cond rfl id | exact .cond rfl gl) (ht : oneT P t = true := by kernel_rfl) : Ev P n w0 H ρ g (.load t x) v :=
  ev_load_cell hx ht fun _ => hc

/-- A load of a struct, by facts on its cells. -/
theorem ev_load_cells {x : Operand} {t m b o : Nat} {l : List Value} (hc : ∀ w, Mem w0 H w → ∀ j v, l[j]? = some v → w.cell? ⟨b, o + j, none⟩ = some v)
    (hx : Gets ρ g x (.pointer (some ⟨b, o, none⟩)) := by first | exact .plain rfl | exact .cond rfl id | exact .cond rfl gl) (hl : l.length = m := by rfl) (ht : aggT P t = some m := by kernel_rfl) :
    Ev P n w0 H ρ g (.load t x) (.agg l.toArray) :=
  ev_load_agg hx ht hl fun _ w hm j v hv => by
    have := hc w hm j v hv
    by_cases h0 : j = 0
    · subst h0; exact this
    · simp only [Addr.add, h0, if_false]; exact this

/-! ### Strings -/

/-- The byte at a place, as Go's number. -/
def bt (s : ByteArray) (i : Nat) : Int := ((s.data.toList.getD i 0).toNat : Int)

theorem bt_range (s : ByteArray) (i : Nat) : 0 ≤ bt s i ∧ bt s i ≤ 255 := by
  unfold bt
  have := (s.data.toList.getD i 0).toNat_lt
  omega

theorem ev_index_string {x y : Operand} {t : TypeId} {s : ByteArray} {k : IntKind} {i : Int}
    (hx : Gets ρ g x (.string s) := by first | exact .plain rfl | exact .cond rfl id | exact .cond rfl gl) (hy : Gets ρ g y (.int k i) := by first | exact .plain rfl | exact .cond rfl id | exact .cond rfl gl)
    (ht : isStringT P t = true := by kernel_rfl) (hi : g = true → 0 ≤ i ∧ i < (s.size : Int) := by first | (intro _; omega) | (intro hg; simp at hg; omega)) :
    Ev P n w0 H ρ g (.index t x y) (.int .u8 (bt s i.toNat)) := by
  intro w a dst ty pos aft gd hm ho hg
  have e1 := hx.eval ho hg
  have e2 := hy.eval ho hg
  have hb := hi hg
  unfold isStringT at ht
  split at ht
  · rename_i hu
    show (Instr.index t (a.eval x) (a.eval y) >>= fun v => pure (Next.value v)).run P w = _
    rw [e1, e2]
    refine run_value ?_
    unfold Instr.index
    show (underlying t >>= _).run P w = _
    rw [run_bind_ok (run_under hu w)]
    have hlt : i.toNat < s.size := by omega
    have hget : s[i.toNat]? = some (s[i.toNat]'hlt) := by simp [hlt]
    simp only [hb.1, if_true, hget]
    show Result.ok (Value.int .u8 _) w = _
    have : bt s i.toNat = ((s[i.toNat]'hlt).toNat : Int) := by
      unfold bt
      rw [List.getD_eq_getElem?_getD, List.getElem?_eq_getElem (by simpa using hlt)]
      rfl
    rw [this]
  · cases ht

theorem toList_inj {s r : ByteArray} (h : s.toList = r.toList) : s = r := by
  rw [ByteArray.toList_eq, ByteArray.toList_eq] at h
  exact ByteArray.ext (Array.toList_inj.1 h)

theorem ev_str_eql {x y : Operand} {t u : TypeId} {s r : ByteArray}
    (hx : Gets ρ g x (.string s) := by first | exact .plain rfl | exact .cond rfl id | exact .cond rfl gl) (hy : Gets ρ g y (.string r) := by first | exact .plain rfl | exact .cond rfl id | exact .cond rfl gl) :
    Ev P n w0 H ρ g (.binOp .eql t x y u) (.bool (decide (s = r))) := by
  intro w a dst ty pos aft gd hm ho hg
  simp only [execOp, hx.eval ho hg, hy.eval ho hg]
  show Result.ok (Next.value (.bool (s.toList == r.toList))) w = _
  have : (s.toList == r.toList) = decide (s = r) := by
    by_cases e : s = r
    · simp [e]
    · have : s.toList ≠ r.toList := fun h => e (toList_inj h)
      simp [e, this]
  rw [this]

theorem str_beq {s r : ByteArray} : (s.toList == r.toList) = decide (s = r) := by
  by_cases e : s = r
  · simp [e]
  · have : s.toList ≠ r.toList := fun h => e (toList_inj h)
    simp [e, this]

theorem ev_str_neq {x y : Operand} {t u : TypeId} {s r : ByteArray} (hx : Gets ρ g x (.string s) := by first | exact .plain rfl | exact .cond rfl id | exact .cond rfl gl) (hy : Gets ρ g y (.string r) := by first | exact .plain rfl | exact .cond rfl id | exact .cond rfl gl) :
    Ev P n w0 H ρ g (.binOp .neq t x y u) (.bool (decide (s ≠ r))) := by
  intro w a dst ty pos aft gd hm ho hg
  simp only [execOp, hx.eval ho hg, hy.eval ho hg]
  show Result.ok (Next.value (.bool (!(s.toList == r.toList)))) w = _
  rw [str_beq]
  simp

theorem ev_str_add {x y : Operand} {t u : TypeId} {s r : ByteArray} (hx : Gets ρ g x (.string s) := by first | exact .plain rfl | exact .cond rfl id | exact .cond rfl gl) (hy : Gets ρ g y (.string r) := by first | exact .plain rfl | exact .cond rfl id | exact .cond rfl gl)
    (hl : g = true → s.size + r.size ≤ 9223372036854775807 := by first | (intro _; omega) | (intro hg; simp at hg; omega)) :
    Ev P n w0 H ρ g (.binOp .add t x y u) (.string (s ++ r)) := by
  intro w a dst ty pos aft gd hm ho hg
  simp only [execOp, hx.eval ho hg, hy.eval ho hg]
  have h := hl hg
  show (Sem.bind (if ((s.size + r.size : Nat) : Int) > IntKind.i64.max then _ else _) _).run P w = _
  have h' : ¬ (((s.size + r.size : Nat) : Int) > IntKind.i64.max) := by
    have : IntKind.i64.max = 9223372036854775807 := rfl
    rw [this]; omega
  rw [if_neg h']
  rfl

theorem ev_bool_eql {x y : Operand} {t u : TypeId} {p q : Bool} (hx : Gets ρ g x (.bool p) := by first | exact .plain rfl | exact .cond rfl id | exact .cond rfl gl) (hy : Gets ρ g y (.bool q) := by first | exact .plain rfl | exact .cond rfl id | exact .cond rfl gl)
    (ht : P.underlying t = some .bool := by kernel_rfl) : Ev P n w0 H ρ g (.binOp .eql t x y u) (.bool (p == q)) := by
  intro w a dst ty pos aft gd hm ho hg
  simp only [execOp, hx.eval ho hg, hy.eval ho hg]
  refine run_value ?_
  show (Op.equal t (.bool p) (.bool q) >>= fun b => pure (Value.bool b)).run P w = _
  have : (Op.equal t (.bool p) (.bool q)).run P w = .ok (p == q) w := by
    unfold Op.equal Op.maxDepth Op.equalIn
    rw [run_bind_ok (run_under ht w)]
    rfl
  rw [run_bind_ok this]
  rfl

theorem ev_bool_neq {x y : Operand} {t u : TypeId} {p q : Bool} (hx : Gets ρ g x (.bool p) := by first | exact .plain rfl | exact .cond rfl id | exact .cond rfl gl) (hy : Gets ρ g y (.bool q) := by first | exact .plain rfl | exact .cond rfl id | exact .cond rfl gl)
    (ht : P.underlying t = some .bool := by kernel_rfl) : Ev P n w0 H ρ g (.binOp .neq t x y u) (.bool (!(p == q))) := by
  intro w a dst ty pos aft gd hm ho hg
  simp only [execOp, hx.eval ho hg, hy.eval ho hg]
  refine run_value ?_
  show (Op.equal t (.bool p) (.bool q) >>= fun b => pure (Value.bool !b)).run P w = _
  have : (Op.equal t (.bool p) (.bool q)).run P w = .ok (p == q) w := by
    unfold Op.equal Op.maxDepth Op.equalIn
    rw [run_bind_ok (run_under ht w)]
    rfl
  rw [run_bind_ok this]
  rfl

theorem ev_nilcheck {x : Operand} {p : Addr} (hx : Gets ρ g x (.pointer (some p)) := by first | exact .plain rfl | exact .cond rfl id | exact .cond rfl gl) : Ev P n w0 H ρ g (.nilCheck x) (.pointer (some p)) := by
  intro w a dst ty pos aft gd hm ho hg
  simp only [execOp, hx.eval ho hg]
  rfl

theorem ev_convert_int {x : Operand} {s d : TypeId} {k : IntKind} {p : Int} (k' : IntKind) (hx : Gets ρ g x (.int k p) := by first | exact .plain rfl | exact .cond rfl id | exact .cond rfl gl) (ht : P.underlying d = some (.int k') := by kernel_rfl) (hs : (P.underlying s).isSome = true := by kernel_rfl) :
    Ev P n w0 H ρ g (.convert s d x) (.int k' (k'.wrap p)) := by
  intro w a dst ty pos aft gd hm ho hg
  cases hu : P.underlying s with
  | none => rw [hu] at hs; cases hs
  | some ds =>
    show (convert s d (a.eval x) >>= fun v => pure (Next.value v)).run P w = _
    rw [hx.eval ho hg]
    refine run_value ?_
    unfold convert
    rw [run_bind_ok (run_under hu w), run_bind_ok (run_under ht w)]
    cases ds <;> rfl

/-! ### Calls under a guard, and calls that only compute -/

/-- The contract's form for a call that leaves old memory alone: it returns v. -/
def Ret (w : World) (v : Value) (e : Ending) (w' : World) : Prop := e = .returned v ∧ Below w.heap.size w w'

inductive GetsG (ρ : Env) (g : Bool) : List Operand → List Value → Prop
  | nil : GetsG ρ g [] []
  | cons {x : Operand} {v : Value} {xs : List Operand} {vs : List Value} : Gets ρ g x v → GetsG ρ g xs vs → GetsG ρ g (x :: xs) (v :: vs)

theorem GetsG.eval {xs : List Operand} {vs : List Value} {a : Act} (h : GetsG ρ g xs vs) (ho : Ok n ρ a) (hg : g = true) : xs.map a.eval = vs := by
  induction h with
  | nil => rfl
  | cons h _ ih => simp [h.eval ho hg, ih]

theorem run_call {f : Nat} {xs : List Operand} {vs : List Value} {ts : Array TypeId} {dst : Option Tmp} {ty : TypeId} {pos : String} {aft : Array Edge} {gd : Option (Nat × Bool)} {a : Act} {w : World}
    (e : xs.map a.eval = vs) (hf : callable P f = true) :
    (execOp a.eval ⟨dst, .call { callee := .value (.func f), args := xs.toArray, argTypes := ts }, ty, pos, aft, gd⟩).run P w = .ok (.enter f vs.toArray) w := by
  simp only [execOp, resolve, List.map_toArray, e]
  show (callFunc f ((#[] ++ vs.toArray) ++ #[])).run P w = _
  rw [Array.empty_append, Array.append_empty]
  exact run_callFunc hf

/-- A call that returns a value and leaves all that is known as it is. -/
theorem st_callv {C : Env → List Chunk → Prop} {f d : Nat} {xs : List Operand} {vs : List Value} {v : Value} {ts : Array TypeId} {ty : TypeId} {pos : String} {aft : Array Edge} {gd : Option (Nat × Bool)}
    (hc : ∀ w, Mem w0 H w → Calls P f vs.toArray w (Ret w v)) (k : C ((d, .v v) :: ρ) H)
    (ha : GetsG ρ true xs vs := by repeat (first | exact GetsG.nil | (apply GetsG.cons; first | exact .plain rfl | exact .cond rfl id | exact .cond rfl gl)))
    (hd : Nat.blt d n = true := by rfl) (hf : callable P f = true := by kernel_rfl) : StepO P n w0 ⟨some d, .call { callee := .value (.func f), args := xs.toArray, argTypes := ts }, ty, pos, aft, gd⟩ ρ H C := by
  intro K Q hs w a hm ho
  unfold Oper.wp
  rw [run_call (ha.eval ho rfl) hf]
  refine (hc w hm).mono ?_
  rintro e w' ⟨rfl, hb⟩
  exact hs _ _ k w' _ (hm.keep (.of_below hb)) (ho.put (by simpa [Nat.blt_eq] using hd) rfl)

theorem ow_callg {ops : Array Oper} {Q : Exit → Act → World → Prop} {rest : List Oper} {f d j : Nat} {want g : Bool} {xs : List Operand} {vs : List Value} {v : Value} {ts : Array TypeId} {ty : TypeId} {pos : String} {aft : Array Edge}
    (hg : gof ops ρ j want = some g) (hc : g = true → ∀ w, Mem w0 H w → Calls P f vs.toArray w (Ret w v)) (k : OW P n w0 ops Q rest ((d, .c g v) :: ρ) H)
    (ha : GetsG ρ g xs vs := by repeat (first | exact GetsG.nil | (apply GetsG.cons; first | exact .plain rfl | exact .cond rfl id | exact .cond rfl gl)))
    (hd : Nat.blt d n = true := by rfl) (hf : callable P f = true := by kernel_rfl) :
    OW P n w0 ops Q (⟨some d, .call { callee := .value (.func f), args := xs.toArray, argTypes := ts }, ty, pos, aft, some (j, want)⟩ :: rest) ρ H := by
  intro w a hm ho
  have hw := wanted_of (o := ⟨some d, .call { callee := .value (.func f), args := xs.toArray, argTypes := ts }, ty, pos, aft, some (j, want)⟩) ho hg rfl
  have hd' : d < n := by simpa [Nat.blt_eq] using hd
  refine wpList_step fun K hK => ?_
  rw [hw]
  cases g with
  | false => exact hK _ _ (k w _ hm (ho.put hd' rfl))
  | true =>
    show Oper.wp _ _ _ _ _ _
    unfold Oper.wp
    rw [run_call (ha.eval ho rfl) hf]
    refine (hc rfl w hm).mono ?_
    rintro e w' ⟨rfl, hb⟩
    exact hK _ _ (k w' _ (hm.keep (.of_below hb)) (ho.put hd' rfl))

/-! ### Rows of the call's own -/

/-- A slice value of the call's own: nil, or at the head of a block of its own; its cells are xs. -/
def row (e sz : Nat) (a : Option Addr) (m cap : Nat) (xs : List Value) : Chunk where
  fp := fun k => ∃ p, a = some p ∧ k = p.block
  φ := fun w => w.ownsRow 0 e sz (.slice a m cap) m xs
  dep := fun w w' h hw => by
    refine ⟨hw.1, ?_⟩
    rcases hw.2 with h2 | ⟨gb, cap', cur, hv, hb, hh, r⟩
    · exact .inl h2
    · refine .inr ⟨gb, cap', cur, hv, hb, ?_, r⟩
      simp only [Value.slice.injEq] at hv
      rw [h gb ⟨_, hv.1, rfl⟩]
      exact hh

theorem Mem.row_nil {w : World} (hm : Mem w0 H w) (e sz : Nat) : Mem w0 (row e sz none 0 0 [] :: H) w := by
  refine hm.add (Frame.refl _ w) (World.ownsRow_nil w 0 e sz) ?_
  rintro k ⟨p, hp, _⟩
  cases hp

/-- A nil slice may be taken for a row of the call's own. -/
theorem cw_row_nil {c : Code} {Q : Exit → Act → World → Prop} (e sz : Nat) (h : CW P n w0 c Q ρ (row e sz none 0 0 [] :: H)) : CW P n w0 c Q ρ H :=
  fun w a hm ho => h w a (hm.row_nil e sz) ho

def rowInfo (P : Program) (t e sz by_ : Nat) : Bool :=
  (match P.underlying t with | some (.slice e') => e' == e | _ => false) &&
  match P.info? e with
  | some i => i.size == sz && i.bytes == by_ && (match i.zero with | some z => z.cells.size == sz | none => false) && decide (0 < sz)
  | none => false

theorem rowInfo_spec {t e sz by_ : Nat} (h : rowInfo P t e sz by_ = true) : P.underlying t = some (.slice e) ∧ ∃ i z, P.info? e = some i ∧ i.size = sz ∧ i.bytes = by_ ∧ i.zero = some z ∧ z.cells.size = sz ∧ 0 < sz := by
  unfold rowInfo at h
  simp only [Bool.and_eq_true] at h
  obtain ⟨h1, h2⟩ := h
  constructor
  · split at h1
    · rename_i e' hu; rw [hu]; simp at h1; rw [h1]
    · cases h1
  · split at h2
    · rename_i i hi
      simp only [Bool.and_eq_true, beq_iff_eq, decide_eq_true_eq] at h2
      obtain ⟨⟨⟨h3, h4⟩, h5⟩, h6⟩ := h2
      split at h5
      · rename_i z hz; exact ⟨i, z, hi, h3, h4, hz, by simpa using h5, h6⟩
      · cases h5
    · cases h2

theorem append_block {w : World} (t ty e : TypeId) (i : TypeInfo) (z : Value) (ht : P.underlying t = some (.slice e)) (hi : P.info? e = some i) (hz : i.zero = some z)
    (v : Value) (m : Nat) (xs : List Value) (hown : w.ownsRow 0 e i.size v m xs) (a : Addr) (mm c : Nat) (news : List Value) (hl : news.length = mm * i.size) (hnews : ∀ j u, news[j]? = some u → w.cell? (a.add j) = some u)
    (h1 : ∀ u ∈ news, u.oneCell' = true) (h63 : m + mm ≤ 9223372036854775807) (hbytes : (m + mm) * i.bytes ≤ 140737488355328) {v' : Value} {w' : World}
    (h : (Builtin.append_ #[t, t] ty #[v, .slice (some a) mm c]).run P w = .ok v' w') : v'.ownBlock = v.ownBlock ∨ v'.ownBlock = some w.heap.size := by
  rcases hown.2 with ⟨rfl, rfl⟩ | ⟨gb, cap, cur, rfl, hbg, hg, hnc, hcm, hcs, htake⟩
  · by_cases hm : mm = 0
    · subst hm
      have hn : news = [] := List.eq_nil_of_length_eq_zero (by simpa using hl)
      subst hn
      simp [Builtin.append_, run_underlying ht, sizeOf, typeInfo, hi, Builtin.lenOf, Builtin.firstCells, loadCells, loadCellsFrom] at h
      left; rw [← h.1]
    · have hr := run_append_nil (P := P) w t ty e i z ht hi hz a mm c news hl hnews (by omega) (by omega) (by have hb := hbytes; simp only [Nat.zero_add] at hb; omega)
      rw [hr] at h
      simp only [Result.ok.injEq] at h
      right; rw [← h.1]; rfl
  · by_cases hroom : m + mm ≤ cap
    · have hfit : m * i.size + news.length ≤ cur.size := by rw [hl, hcs, ← Nat.add_mul]; exact Nat.mul_le_mul_right _ hroom
      have hr := run_append_room (P := P) w t ty e i ht hi gb m cap cur hg a mm c news hl hnews h1 hroom hfit
      rw [hr] at h
      simp only [Result.ok.injEq] at h
      left; rw [← h.1]; rfl
    · have holds : ∀ j u, xs[j]? = some u → w.cell? ((⟨gb, 0, none⟩ : Addr).add j) = some u := hown.cells (g := gb) rfl
      have hr := run_append_grow (P := P) w t ty e i z ht hi hz ⟨gb, 0, none⟩ m cap xs hown.1 holds a mm c news hl hnews (by omega) (by omega) (growslice_fits (by omega) hbytes)
      rw [hr] at h
      simp only [Result.ok.injEq] at h
      right; rw [← h.1]; rfl

/-- append(s, new...) onto a row of the call's own. -/
theorem st_append_row {C : Env → List Chunk → Prop} {x y : Operand} {t e sz m mm cc d cap : Nat} {ty : TypeId} {pos : String} {aft : Array Edge} {gd : Option (Nat × Bool)} {a : Option Addr} {p : Addr} {xs news : List Value} {H' : Option Addr → Nat → List Chunk}
    (by_ : Nat) (hnews : ∀ w, Mem w0 H w → ∀ j u, news[j]? = some u → w.cell? (p.add j) = some u) (hl : news.length = mm * sz) (h1 : ∀ u ∈ news, u.oneCell' = true)
    (hb : (m + mm) * by_ ≤ 140737488355328) (hm63 : m + mm ≤ 140737488355328)
    (hu : ∀ a' cap', Upd H (row e sz a m cap xs) (row e sz a' (m + mm) cap' (xs ++ news)) (H' a' cap'))
    (k : ∀ a' cap', C ((d, .v (.slice a' (m + mm) cap')) :: ρ) (H' a' cap'))
    (hx : Gets ρ true x (.slice a m cap) := by first | exact .plain rfl | exact .cond rfl id | exact .cond rfl gl) (hy : Gets ρ true y (.slice (some p) mm cc) := by first | exact .plain rfl | exact .cond rfl id | exact .cond rfl gl)
    (hd : Nat.blt d n = true := by rfl) (hi : rowInfo P t e sz by_ = true := by kernel_rfl) :
    StepO P n w0 ⟨some d, .call { callee := .builtin .append, args := #[x, y], argTypes := #[t, t] }, ty, pos, aft, gd⟩ ρ H C := by
  intro K Q hs w act hm ho
  obtain ⟨hut, i, z, hi', hsz, hby, hz, hzs, hpos⟩ := rowInfo_spec hi
  have hown : w.ownsRow 0 e sz (.slice a m cap) m xs := (hu none 0).has.φ hm
  obtain ⟨cs, hcs⟩ := exec_builtin2 act.eval .append x y #[t, t] (some d) ty pos aft gd
  obtain ⟨v', w', hr, ho2, hg, _⟩ := run_append_own (P := P) w 0 t ty e i z sz by_ hut hi' hz hsz hby hzs hpos _ m xs hown p mm cc news hl (hnews w hm) h1 (by simp only [maxLen]; omega) hb (Nat.zero_le _)
  have hv : ∃ a' cap', v' = .slice a' (m + mm) cap' := by
    rcases ho2.2 with ⟨rfl, h0⟩ | ⟨gb, cap', cur, rfl, _⟩
    · exact ⟨none, 0, by rw [h0]⟩
    · exact ⟨_, _, rfl⟩
  obtain ⟨a', cap', rfl⟩ := hv
  unfold Oper.wp
  rw [hcs, hx.eval ho rfl, hy.eval ho rfl]
  have hrun : (builtin .append #[t, t] ty cs #[.slice a m cap, .slice (some p) mm cc]).run P w = .ok (.value (.slice a' (m + mm) cap')) w' := run_value hr
  rw [hrun]
  refine hs _ _ (k a' cap') w' _ (hm.upd (hu a' cap') ⟨hg.os, hg.tape, hg.output, hg.size, fun kk hk hn => hg.block kk hk ?_⟩ ho2 ?_) (ho.put (by simpa [Nat.blt_eq] using hd) rfl)
  · intro he
    cases a with
    | none => cases he
    | some q => exact hn ⟨q, rfl, by simpa [Value.ownBlock] using he⟩
  · rintro kk ⟨q, hq, rfl⟩
    subst hq
    have hlt := ho2.lt q.block rfl
    refine ⟨?_, hlt.2⟩
    subst hsz
    subst hby
    rcases append_block t ty e i z hut hi' hz _ m xs hown p mm cc news hl (hnews w hm) h1 (by omega) hb hr with hq | hq
    · left
      cases a with
      | none => cases hq
      | some q' => exact ⟨q', rfl, by simpa [Value.ownBlock] using hq⟩
    · right
      simp [Value.ownBlock] at hq
      omega

/-- append(s, x, ..): the new cells lie in a block of the call's own. -/
theorem st_append_own {C : Env → List Chunk → Prop} {x y : Operand} {t e sz m mm cc d cap b e2 : Nat} {ty : TypeId} {pos : String} {aft : Array Edge} {gd : Option (Nat × Bool)} {a : Option Addr} {xs news : List Value} {H' : Option Addr → Nat → List Chunk}
    (by_ : Nat)
    (hx : Gets ρ true x (.slice a m cap) := by first | exact .plain rfl | exact .cond rfl id | exact .cond rfl gl) (hy : Gets ρ true y (.slice (some ⟨b, 0, none⟩) mm cc) := by first | exact .plain rfl | exact .cond rfl id | exact .cond rfl gl)
    (hh : Has H (own b e2 news) := by repeat (first | exact Has.head | apply Has.tail))
    (hu : ∀ a' cap', Upd H (row e sz a m cap xs) (row e sz a' (m + mm) cap' (xs ++ news)) (H' a' cap') := by intro a' cap'; repeat (first | exact Upd.head | apply Upd.tail))
    (hl : news.length = mm * sz := by rfl) (h1 : news.all Value.oneCell' = true := by rfl)
    (hb : (m + mm) * by_ ≤ 140737488355328 := by omega) (hm63 : m + mm ≤ 140737488355328 := by omega)
    (hd : Nat.blt d n = true := by rfl) (hi : rowInfo P t e sz by_ = true := by kernel_rfl)
    (k : ∀ a' cap', C ((d, .v (.slice a' (m + mm) cap')) :: ρ) (H' a' cap')) :
    StepO P n w0 ⟨some d, .call { callee := .builtin .append, args := #[x, y], argTypes := #[t, t] }, ty, pos, aft, gd⟩ ρ H C :=
  st_append_row by_ (fun w hm j u hu => by
    have := own_cell (hh.φ hm) hu
    by_cases h0 : j = 0
    · subst h0; exact this
    · simp only [Addr.add, h0, if_false, Nat.zero_add]; exact this) hl (List.all_eq_true.1 h1) hb hm63 hu k hx hy hd hi
end
end Go.Eng

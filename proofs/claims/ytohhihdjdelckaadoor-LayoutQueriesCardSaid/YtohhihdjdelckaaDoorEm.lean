/- Engine, part 1: symbolic execution of Go code over an environment of known slots and a list of owned memory chunks. Engine, part 2: what single operations do. Engine, part 3: slices that are read, rows of the call's own, strings, calls under a guard. Engine, part 4: building values, new rows, maps with string keys, comparisons of structs, pure facts. Engine, part 5: sets of strings (map[string]bool). Engine, part 6: contracts of calls that change a chunk of the caller's. Engine, part 7: what a row's reading gives of a slice of integers. Engine, part 8: a slice of slices of the call's own, each of which grows by itself; stores in general. Engine, part 9: a region in whatever order whose last operation waits for all others: what it writes the others may read. -/
import Derived.OrdersHeld
import Derived.Tactics
import Derived.Below
import Derived.KernelRfl
import Derived.WalkKit
import Derived.Deep.LoopGhost
import Derived.Laws.OwnMore
import Derived.Laws.MakeOwn
import Derived.Laws.StructEq
import Derived.ProofKit
import Derived.StillTail
set_option linter.all false
namespace Go.Eng
open Go.RowKit

/-- What is known of a slot: its value, or its value under a condition (else it is undefined). -/
inductive EV where
  | v (x : Value)
  | c (b : Bool) (x : Value)

def EV.ok : EV → Option Value → Prop
  | .v x, u => u = some x
  | .c b x, u => u = some (match b with | true => x | false => undef)

abbrev Env := List (Nat × EV)

def look : Env → Nat → Option EV
  | [], _ => none
  | p :: r, t => match Nat.beq p.1 t with | true => some p.2 | false => look r t

def evc (ρ : Env) : Operand → Option EV
  | .tmp t => look ρ t
  | .const v => some (.v v)
  | .global g => some (.v (.pointer (some ⟨g, 0, none⟩)))
  | .func f => some (.v (.func (.func f) #[] #[]))

theorem beq_ne {a b : Nat} (h : a ≠ b) : Nat.beq a b = false := Bool.eq_false_iff.2 (fun e => h (Nat.eq_of_beq_eq_true e))

structure Ok (n : Nat) (ρ : Env) (a : Act) : Prop where
  size : a.tmps.size = n
  nodef : a.defers = []
  get : ∀ t e, look ρ t = some e → e.ok (a.tmps[t]?)

theorem Ok.put {n : Nat} {ρ : Env} {a : Act} {d : Nat} {e : EV} {u : Value} (h : Ok n ρ a) (hd : d < n) (he : e.ok (some u)) : Ok n ((d, e) :: ρ) (a.put (some d) u) := by
  refine ⟨by simp [Act.put, h.size], by simp [Act.put, h.nodef], fun t f hf => ?_⟩
  simp only [look] at hf
  by_cases hdt : d = t
  · subst hdt
    simp at hf
    subst hf
    have : d < a.tmps.size := by rw [h.size]; exact hd
    simpa [Act.put, this] using he
  · have hb : Nat.beq d t = false := beq_ne hdt
    rw [hb] at hf
    have := h.get t f hf
    simpa [Act.put, Array.getElem?_setIfInBounds_ne hdt] using this

/-- The operand's value, wherever g holds. -/
inductive Gets (ρ : Env) (g : Bool) (x : Operand) (v : Value) : Prop
  | plain (h : evc ρ x = some (.v v))
  | cond {b : Bool} (h : evc ρ x = some (.c b v)) (hi : g = true → b = true)

theorem Gets.eval {n : Nat} {ρ : Env} {g : Bool} {x : Operand} {v : Value} {a : Act} (h : Gets ρ g x v) (ho : Ok n ρ a) (hg : g = true) : a.eval x = v := by
  cases h with
  | plain h =>
    cases x with
    | tmp t => have := ho.get t _ h; simp only [EV.ok] at this; simp [Act.eval, Array.getD_eq_getD_getElem?, this]
    | const u => simp [evc] at h; simpa [Act.eval] using h
    | global g => simp [evc] at h; simpa [Act.eval] using h
    | func f => simp [evc] at h; simpa [Act.eval] using h
  | cond h hi =>
    have hb := hi hg
    cases x with
    | tmp t => have := ho.get t _ h; simp only [EV.ok, hb] at this; simp [Act.eval, Array.getD_eq_getD_getElem?, this]
    | const u => simp [evc] at h
    | global g => simp [evc] at h
    | func f => simp [evc] at h

def Sub (ρ' ρ : Env) : Prop := ∀ t e, look ρ' t = some e → look ρ t = some e

theorem Ok.sub {n : Nat} {ρ ρ' : Env} {a : Act} (h : Ok n ρ a) (hs : Sub ρ' ρ) : Ok n ρ' a := ⟨h.size, h.nodef, fun t e he => h.get t e (hs t e he)⟩

/-- The environment ρ' entry by entry. -/
def SubL : Env → Env → Prop
  | [], _ => True
  | p :: r, ρ => look ρ p.1 = some p.2 ∧ SubL r ρ

theorem SubL.sub : ∀ {ρ' ρ : Env}, SubL ρ' ρ → Sub ρ' ρ
  | [], _, _ => fun t e h => by simp [look] at h
  | p :: r, ρ, ⟨h1, h2⟩ => fun t e h => by
    simp only [look] at h
    by_cases hb : p.1 = t
    · subst hb
      simp at h
      subst h
      exact h1
    · have hb' : Nat.beq p.1 t = false := beq_ne hb
      rw [hb'] at h
      exact h2.sub t e h

/-! ### Memory -/

structure Chunk where
  fp : Nat → Prop
  φ : World → Prop
  dep : ∀ w w' : World, (∀ k, fp k → w'.heap[k]? = w.heap[k]?) → φ w → φ w'

def Disj (c d : Chunk) : Prop := ∀ k, c.fp k → ¬ d.fp k
theorem Disj.symm {c d : Chunk} (h : Disj c d) : Disj d c := fun k hd hc => h k hc hd

structure Mem (w0 : World) (H : List Chunk) (w : World) : Prop where
  os : w.os = w0.os
  tape : w.tape = w0.tape
  output : w.output = w0.output
  size : w0.heap.size ≤ w.heap.size
  all : ∀ c ∈ H, c.φ w ∧ ∀ k, c.fp k → k < w.heap.size
  disj : H.Pairwise Disj

/-- Nothing but the blocks of fp, and new blocks, has changed. -/
structure Frame (fp : Nat → Prop) (w w' : World) : Prop where
  os : w'.os = w.os
  tape : w'.tape = w.tape
  output : w'.output = w.output
  size : w.heap.size ≤ w'.heap.size
  block : ∀ k, k < w.heap.size → ¬ fp k → w'.heap[k]? = w.heap[k]?

theorem Frame.of_below {w w' : World} {fp : Nat → Prop} (h : Below w.heap.size w w') : Frame fp w w' := ⟨h.os, h.tape, h.output, h.size, fun k hk _ => h.block k hk⟩
theorem Frame.refl (fp : Nat → Prop) (w : World) : Frame fp w w := ⟨rfl, rfl, rfl, Nat.le_refl _, fun _ _ _ => rfl⟩

/-- One chunk of the list is replaced, in its place. -/
inductive Upd : List Chunk → Chunk → Chunk → List Chunk → Prop
  | head {c c' : Chunk} {H : List Chunk} : Upd (c :: H) c c' (c' :: H)
  | tail {c c' d : Chunk} {H H' : List Chunk} : Upd H c c' H' → Upd (d :: H) c c' (d :: H')

inductive Has : List Chunk → Chunk → Prop
  | head {c : Chunk} {H : List Chunk} : Has (c :: H) c
  | tail {c d : Chunk} {H : List Chunk} : Has H c → Has (d :: H) c

theorem Has.mem {H : List Chunk} {c : Chunk} (h : Has H c) : c ∈ H := by
  induction h with
  | head => exact List.mem_cons_self
  | tail _ ih => exact List.mem_cons_of_mem _ ih

theorem Has.φ {w0 w : World} {H : List Chunk} {c : Chunk} (h : Has H c) (hm : Mem w0 H w) : c.φ w := (hm.all c h.mem).1
theorem Has.lt {w0 w : World} {H : List Chunk} {c : Chunk} (h : Has H c) (hm : Mem w0 H w) {k : Nat} (hk : c.fp k) : k < w.heap.size := (hm.all c h.mem).2 k hk

theorem Upd.has {H H' : List Chunk} {c c' : Chunk} (h : Upd H c c' H') : Has H c := by
  induction h with
  | head => exact .head
  | tail _ ih => exact .tail ih

theorem Upd.mem' {H H' : List Chunk} {c c' : Chunk} (h : Upd H c c' H') : ∀ d ∈ H', d = c' ∨ d ∈ H := by
  induction h with
  | head => intro d hd; rcases List.mem_cons.1 hd with h | h; exact .inl h; exact .inr (List.mem_cons_of_mem _ h)
  | tail _ ih =>
    intro d hd
    rcases List.mem_cons.1 hd with h | h
    · exact .inr (h ▸ List.mem_cons_self)
    · rcases ih d h with h | h
      · exact .inl h
      · exact .inr (List.mem_cons_of_mem _ h)

theorem Frame.trans {fp : Nat → Prop} {w w1 w2 : World} (h : Frame fp w w1) (h' : Frame fp w1 w2) : Frame fp w w2 :=
  ⟨h'.os.trans h.os, h'.tape.trans h.tape, h'.output.trans h.output, Nat.le_trans h.size h'.size,
    fun k hk hn => (h'.block k (Nat.lt_of_lt_of_le hk h.size) hn).trans (h.block k hk hn)⟩

theorem Mem.upd {w0 w w' : World} {H H' : List Chunk} {c c' : Chunk} (hm : Mem w0 H w) (hu : Upd H c c' H') (hfr : Frame c.fp w w') (hφ : c'.φ w')
    (hfp : ∀ k, c'.fp k → (c.fp k ∨ w.heap.size ≤ k) ∧ k < w'.heap.size) : Mem w0 H' w' := by
  refine ⟨hfr.os.trans hm.os, hfr.tape.trans hm.tape, hfr.output.trans hm.output, Nat.le_trans hm.size hfr.size, ?_, ?_⟩
  · have hall := hm.all
    have hd := hm.disj
    have hsz := hfr.size
    clear hm
    induction hu with
    | head =>
      intro d hd'
      rcases List.mem_cons.1 hd' with h | h
      · subst h; exact ⟨hφ, fun k hk => (hfp k hk).2⟩
      · have hdd := (List.pairwise_cons.1 hd).1 d h
        have hx := hall d (List.mem_cons_of_mem _ h)
        exact ⟨d.dep w w' (fun k hk => hfr.block k (hx.2 k hk) (fun hc => hdd k hc hk)) hx.1, fun k hk => Nat.lt_of_lt_of_le (hx.2 k hk) hsz⟩
    | @tail c0 c0' d0 H0 H0' hu ih =>
      intro d hd'
      rcases List.mem_cons.1 hd' with h | h
      · subst h
        have hdd := (List.pairwise_cons.1 hd).1 _ hu.has.mem
        have hx := hall d List.mem_cons_self
        exact ⟨d.dep w w' (fun k hk => hfr.block k (hx.2 k hk) (fun hc => hdd k hk hc)) hx.1, fun k hk => Nat.lt_of_lt_of_le (hx.2 k hk) hsz⟩
      · exact ih hfr hφ hfp (fun c hc => hall c (List.mem_cons_of_mem _ hc)) (List.pairwise_cons.1 hd).2 d h
  · have hall := hm.all
    have hd := hm.disj
    clear hm
    induction hu with
    | head =>
      rw [List.pairwise_cons] at hd ⊢
      refine ⟨fun d hdm k hk hk' => ?_, hd.2⟩
      rcases (hfp k hk).1 with h | h
      · exact hd.1 d hdm k h hk'
      · have := (hall d (List.mem_cons_of_mem _ hdm)).2 k hk'; omega
    | @tail c0 c0' d0 H0 H0' hu ih =>
      rw [List.pairwise_cons] at hd ⊢
      refine ⟨fun d hdm k hk hk' => ?_, ih hfr hφ hfp (fun c hc => hall c (List.mem_cons_of_mem _ hc)) hd.2⟩
      rcases hu.mem' d hdm with h | h
      · subst h
        rcases (hfp k hk').1 with h | h
        · exact hd.1 _ hu.has.mem k hk h
        · have := (hall _ List.mem_cons_self).2 k hk; omega
      · exact hd.1 d h k hk hk'

theorem Mem.keep {w0 w w' : World} {H : List Chunk} (hm : Mem w0 H w) (hfr : Frame (fun _ => False) w w') : Mem w0 H w' :=
  ⟨hfr.os.trans hm.os, hfr.tape.trans hm.tape, hfr.output.trans hm.output, Nat.le_trans hm.size hfr.size,
    fun c hc => ⟨c.dep w w' (fun k hk => hfr.block k ((hm.all c hc).2 k hk) id) (hm.all c hc).1, fun k hk => Nat.lt_of_lt_of_le ((hm.all c hc).2 k hk) hfr.size⟩, hm.disj⟩

theorem Mem.add {w0 w w' : World} {H : List Chunk} {c : Chunk} (hm : Mem w0 H w) (hfr : Frame (fun _ => False) w w') (hφ : c.φ w')
    (hfp : ∀ k, c.fp k → w.heap.size ≤ k ∧ k < w'.heap.size) : Mem w0 (c :: H) w' := by
  have hk := hm.keep hfr
  refine ⟨hk.os, hk.tape, hk.output, hk.size, ?_, ?_⟩
  · intro d hd
    rcases List.mem_cons.1 hd with h | h
    · subst h; exact ⟨hφ, fun k hk => (hfp k hk).2⟩
    · exact hk.all d h
  · rw [List.pairwise_cons]
    exact ⟨fun d hd k hc hd' => by have := (hm.all d hd).2 k hd'; have := (hfp k hc).1; omega, hm.disj⟩

theorem Mem.sub {w0 w : World} {H H' : List Chunk} (hm : Mem w0 H w) (h : List.Sublist H' H) : Mem w0 H' w :=
  ⟨hm.os, hm.tape, hm.output, hm.size, fun c hc => hm.all c (h.subset hc), hm.disj.sublist h⟩

theorem Mem.drawn {w0 w : World} {H : List Chunk} (hm : Mem w0 H w) (n : Nat) : Mem w0 H { w with drawn := n } :=
  hm.keep ⟨rfl, rfl, rfl, Nat.le_refl _, fun _ _ _ => rfl⟩

/-- A block of cells that the call owns. -/
def own (b : Nat) (T : TypeId) (l : List Value) : Chunk where
  fp := fun k => k = b
  φ := fun w => w.heap[b]? = some (.cells l.toArray T (0, 0))
  dep := fun w w' h hw => by rw [h b rfl]; exact hw

/-- Whatever fact on the blocks of fp. -/
def fact (fp : Nat → Prop) (φ : World → Prop) (dep : ∀ w w' : World, (∀ k, fp k → w'.heap[k]? = w.heap[k]?) → φ w → φ w') : Chunk := ⟨fp, φ, dep⟩

/-- All that was there when the call began, but the blocks of fp. -/
def oldBut (w0 : World) (fp : Nat → Prop) : Chunk where
  fp := fun k => k < w0.heap.size ∧ ¬ fp k
  φ := fun w => ∀ k, k < w0.heap.size → ¬ fp k → w.heap[k]? = w0.heap[k]?
  dep := fun w w' h hw k hk hn => by rw [h k ⟨hk, hn⟩]; exact hw k hk hn

def old (w0 : World) : Chunk where
  fp := fun k => k < w0.heap.size
  φ := fun w => ∀ k, k < w0.heap.size → w.heap[k]? = w0.heap[k]?
  dep := fun w w' h hw k hk => by rw [h k hk]; exact hw k hk

theorem Mem.start (w : World) : Mem w [old w] w :=
  ⟨rfl, rfl, rfl, Nat.le_refl _, fun c hc => by simp at hc; subst hc; exact ⟨fun _ _ => rfl, fun k hk => hk⟩, by simp⟩

theorem Mem.below {w0 w : World} {H : List Chunk} (hm : Mem w0 H w) (h : Has H (old w0)) : Below w0.heap.size w0 w :=
  ⟨hm.os, hm.tape, hm.output, hm.size, h.φ hm⟩

/-- The chunk of a block that has just been made. -/
theorem Mem.alloc {w0 w : World} {H : List Chunk} (hm : Mem w0 H w) (l : List Value) (T : TypeId) : Mem w0 (own w.heap.size T l :: H) (w.alloc (.cells l.toArray T)) := by
  refine hm.add ⟨rfl, rfl, rfl, by simp, fun k hk _ => Below.heap_alloc w _ k hk⟩ ?_ ?_
  · show (w.heap.push _)[w.heap.size]? = _
    simp
  · intro k hk
    have : k = w.heap.size := hk
    subst this
    exact ⟨Nat.le_refl _, by show w.heap.size < (w.heap.push _).size; simp⟩

/-! ### The judgements -/

section
variable (P : Program) (n : Nat) (w0 : World)

/-- A continuation over environments and chunks, and one over acts and worlds. -/
def Sound (C : Env → List Chunk → Prop) (K : Act → World → Prop) : Prop := ∀ ρ H, C ρ H → ∀ w a, Mem w0 H w → Ok n ρ a → K a w

def StepO (o : Oper) (ρ : Env) (H : List Chunk) (C : Env → List Chunk → Prop) : Prop :=
  ∀ (K : Act → World → Prop) (Q : Exit → Act → World → Prop), Sound n w0 C K → ∀ w a, Mem w0 H w → Ok n ρ a → o.wp P a w K Q

/-- A list of operations, in its order. -/
def OW (ops : Array Oper) (Q : Exit → Act → World → Prop) (l : List Oper) (ρ : Env) (H : List Chunk) : Prop :=
  ∀ w a, Mem w0 H w → Ok n ρ a → wpList P ops Q l a w

def CW (c : Code) (Q : Exit → Act → World → Prop) (ρ : Env) (H : List Chunk) : Prop :=
  ∀ w a, Mem w0 H w → Ok n ρ a → c.wp P Q a w

def KW (K : Act → World → Prop) (ρ : Env) (H : List Chunk) : Prop := ∀ w a, Mem w0 H w → Ok n ρ a → K a w

/-- A region in whatever order; Hs: the chunks that stay. -/
def AW (ops : Array Oper) (K : Act → World → Prop) (Hs : List Chunk) (fuel : Nat) (listed : Array Bool) (ρ : Env) (H : List Chunk) : Prop :=
  ∀ w a, Mem w0 H w → Mem w0 Hs w → Ok n ρ a → wpAnyH P .any ops (fun e a w => e = .normal ∧ K a w) (fun w => Mem w0 Hs w) fuel listed a w

/-- The operation only reads, and yields v wherever g holds. -/
def Ev (H : List Chunk) (ρ : Env) (g : Bool) (op : Op) (v : Value) : Prop :=
  ∀ w a dst ty pos aft gd, Mem w0 H w → Ok n ρ a → g = true → (execOp a.eval ⟨dst, op, ty, pos, aft, gd⟩).run P w = .ok (.value v) w
end

section
variable {P : Program} {n : Nat} {w0 : World} {ops : Array Oper} {Q : Exit → Act → World → Prop} {rest : List Oper} {ρ : Env} {H : List Chunk}

theorem ow_nil (h : KW n w0 (fun a w => Q .normal a w) ρ H) : OW P n w0 ops Q [] ρ H := fun w a hm ho => h w a hm ho

theorem ow_cons {o : Oper} (h : StepO P n w0 o ρ H (OW P n w0 ops Q rest)) (hg : o.guard = none := by rfl) : OW P n w0 ops Q (o :: rest) ρ H :=
  fun w a hm ho => wpList_plain hg fun K hK => h K Q (fun _ _ hc w a m o => hK _ _ (hc w a m o)) w a hm ho

theorem st_ev {op : Op} {v : Value} {d : Nat} {ty : TypeId} {pos : String} {aft : Array Edge} {gd : Option (Nat × Bool)} {C : Env → List Chunk → Prop}
    (h : Ev P n w0 H ρ true op v) (k : C ((d, .v v) :: ρ) H) (hd : Nat.blt d n = true := by rfl) : StepO P n w0 ⟨some d, op, ty, pos, aft, gd⟩ ρ H C := by
  intro K Q hs w a hm ho
  unfold Oper.wp
  rw [h w a _ _ _ _ _ hm ho rfl]
  exact hs _ _ k w _ hm (ho.put (by simpa [Nat.blt_eq] using hd) rfl)

theorem ow_ev {op : Op} {v : Value} {d : Nat} {ty : TypeId} {pos : String} {aft : Array Edge}
    (h : Ev P n w0 H ρ true op v) (k : OW P n w0 ops Q rest ((d, .v v) :: ρ) H) (hd : Nat.blt d n = true := by rfl) :
    OW P n w0 ops Q (⟨some d, op, ty, pos, aft, none⟩ :: rest) ρ H := ow_cons (st_ev h k hd)

/-- The guard's value out of what is known of its slot. -/
def gval : EV → Bool → Option Bool
  | .v (.bool x), true => some x
  | .v (.bool x), false => some (!x)
  | .c b (.bool x), true => some (b && x)
  | .c b (.bool x), false => some (b && !x)
  | _, _ => none

def gof (ops : Array Oper) (ρ : Env) (j : Nat) (want : Bool) : Option Bool :=
  match ops[j]? with
  | some o => match o.dst with
    | some d => match look ρ d with
      | some e => gval e want
      | none => none
    | none => none
  | none => none

theorem wanted_of {o : Oper} {j : Nat} {want g : Bool} {a : Act} (ho : Ok n ρ a) (hg : gof ops ρ j want = some g) (hgd : o.guard = some (j, want)) :
    Region.wanted o (yielded ops a.tmps) = g := by
  unfold gof at hg
  split at hg
  · rename_i oj hoj
    split at hg
    · rename_i d hd
      split at hg
      · rename_i e he
        have hget := ho.get d e he
        simp only [Region.wanted, hgd, yielded, hoj, Option.bind_some, hd]
        unfold gval at hg
        split at hg
        · simp only [EV.ok] at hget
          simp only [hget]
          simp at hg; subst hg; simp
        · simp only [EV.ok] at hget
          simp only [hget]
          simp at hg; subst hg; cases g <;> rfl
        · simp only [EV.ok] at hget
          simp at hg; subst hg
          rename_i b x
          cases b <;> simp only [hget] <;> simp [undef]
        · simp only [EV.ok] at hget
          simp at hg; subst hg
          rename_i b x
          cases b <;> simp only [hget] <;> cases x <;> simp [undef]
        · cases hg
      · cases hg
    · cases hg
  · cases hg

theorem ow_evg {op : Op} {v : Value} {d j : Nat} {want g : Bool} {ty : TypeId} {pos : String} {aft : Array Edge}
    (hg : gof ops ρ j want = some g) (h : Ev P n w0 H ρ g op v) (k : OW P n w0 ops Q rest ((d, .c g v) :: ρ) H) (hd : Nat.blt d n = true := by rfl) :
    OW P n w0 ops Q (⟨some d, op, ty, pos, aft, some (j, want)⟩ :: rest) ρ H := by
  intro w a hm ho
  have hw := wanted_of (o := ⟨some d, op, ty, pos, aft, some (j, want)⟩) ho hg rfl
  have hd' : d < n := by simpa [Nat.blt_eq] using hd
  refine wpList_step fun K hK => ?_
  rw [hw]
  cases g with
  | false => exact hK _ _ (k w _ hm (ho.put hd' rfl))
  | true =>
    show Oper.wp _ _ _ _ _ _
    unfold Oper.wp
    rw [h w a _ _ _ _ _ hm ho rfl]
    exact hK _ _ (k w _ hm (ho.put hd' rfl))

/-! ### Regions in whatever order -/

section any
variable {K : Act → World → Prop} {Hs : List Chunk} {fuel : Nat} {listed : Array Bool}

theorem aw_done (k : KW n w0 K ρ H) (hr : Region.ready .any ops listed = [] := by kernel_rfl) : AW P n w0 ops K Hs fuel listed ρ H :=
  fun w a hm _ ho => wpAnyH_done hr ⟨rfl, k w a hm ho⟩ fuel

/-- An operation that only reads the chunks that stay is taken first. -/
theorem aw_ev {op : Op} {v : Value} {d : Nat} {ty : TypeId} {pos : String} {aft : Array Edge} (i : Nat) (hi : ops[i]? = some ⟨some d, op, ty, pos, aft, none⟩)
    (h : Ev P n w0 Hs ρ true op v) (k : AW P n w0 ops K Hs fuel (listed.setIfInBounds i true) ((d, .v v) :: ρ) H)
    (hd : Nat.blt d n = true := by rfl)
    (h1 : Region.noSelect ops = true := by kernel_rfl) (h2 : Region.free .any ops listed i = true := by kernel_rfl)
    (h3 : (Region.ready .any ops listed).contains i = true := by kernel_rfl) : AW P n w0 ops K Hs (fuel + 1) listed ρ H := by
  intro w a hm hms ho
  refine wpAnyH_take (v := v) hi h1 h2 h3 (fun c a w h => by cases h.1) (.inl ⟨rfl, fun w' hS => ?_⟩) hms ?_
  · exact h w' a _ _ _ _ _ hS ho rfl
  · exact k w _ hm hms (ho.put (by simpa [Nat.blt_eq] using hd) rfl)

theorem aw_evg {op : Op} {v : Value} {d j : Nat} {want g : Bool} {ty : TypeId} {pos : String} {aft : Array Edge} (i : Nat) (hi : ops[i]? = some ⟨some d, op, ty, pos, aft, some (j, want)⟩)
    (hg : gof ops ρ j want = some g)
    (h : Ev P n w0 Hs ρ g op v) (k : AW P n w0 ops K Hs fuel (listed.setIfInBounds i true) ((d, .c g v) :: ρ) H)
    (hd : Nat.blt d n = true := by rfl)
    (h1 : Region.noSelect ops = true := by kernel_rfl) (h2 : Region.free .any ops listed i = true := by kernel_rfl)
    (h3 : (Region.ready .any ops listed).contains i = true := by kernel_rfl) : AW P n w0 ops K Hs (fuel + 1) listed ρ H := by
  intro w a hm hms ho
  have hw := wanted_of (o := ⟨some d, op, ty, pos, aft, some (j, want)⟩) ho hg rfl
  cases g with
  | true =>
    refine wpAnyH_take (v := v) hi h1 h2 h3 (fun c a w h => by cases h.1) (.inl ⟨hw, fun w' hS => ?_⟩) hms ?_
    · exact h w' a _ _ _ _ _ hS ho rfl
    · exact k w _ hm hms (ho.put (by simpa [Nat.blt_eq] using hd) rfl)
  | false =>
    refine wpAnyH_take (v := undef) hi h1 h2 h3 (fun c a w h => by cases h.1) (.inr ⟨hw, rfl⟩) hms ?_
    exact k w _ hm hms (ho.put (by simpa [Nat.blt_eq] using hd) rfl)

/-- A guarded operation, of whatever kind, whose guard does not hold. -/
theorem aw_gskip {op : Op} {d j : Nat} {want g : Bool} {ty : TypeId} {pos : String} {aft : Array Edge} (i : Nat) (hi : ops[i]? = some ⟨some d, op, ty, pos, aft, some (j, want)⟩)
    (hg : gof ops ρ j want = some g) (hb : g = false)
    (k : AW P n w0 ops K Hs fuel (listed.setIfInBounds i true) ((d, .v undef) :: ρ) H)
    (hd : Nat.blt d n = true := by rfl)
    (h1 : Region.noSelect ops = true := by kernel_rfl) (h2 : Region.free .any ops listed i = true := by kernel_rfl)
    (h3 : (Region.ready .any ops listed).contains i = true := by kernel_rfl) : AW P n w0 ops K Hs (fuel + 1) listed ρ H := by
  intro w a hm hms ho
  have hw := wanted_of (o := ⟨some d, op, ty, pos, aft, some (j, want)⟩) ho hg rfl
  subst hb
  refine wpAnyH_take (v := undef) hi h1 h2 h3 (fun c a w h => by cases h.1) (.inr ⟨hw, rfl⟩) hms ?_
  exact k w _ hm hms (ho.put (by simpa [Nat.blt_eq] using hd) rfl)

/-- One operation of whatever kind. -/
def One (P : Program) (n : Nat) (w0 : World) (ops : Array Oper) (K : Act → World → Prop) (Hs : List Chunk) (fuel : Nat) (listed : Array Bool) (ρ : Env) (H : List Chunk) (i : Nat) : Prop :=
  ∃ o, ops[i]? = some o ∧ o.guard = none ∧ StepO P n w0 o ρ H (fun ρ' H' => (∀ w, Mem w0 H' w → Mem w0 Hs w) ∧ AW P n w0 ops K Hs fuel (listed.setIfInBounds i true) ρ' H')

theorem One.wpOp {i : Nat} (h : One P n w0 ops K Hs fuel listed ρ H i) {w : World} {a : Act} (hm : Mem w0 H w) (ho : Ok n ρ a) :
    wpOp P ops (fun e a w => e = .normal ∧ K a w) i (fun a' w' => Mem w0 Hs w' ∧ wpAnyH P .any ops (fun e a w => e = .normal ∧ K a w) (fun w => Mem w0 Hs w) fuel (listed.setIfInBounds i true) a' w') a w := by
  obtain ⟨o, hi, hg, hs⟩ := h
  unfold Go.wpOp
  simp only [hi, Region.wanted, hg, if_true]
  refine .inl (hs _ _ ?_ w a hm ho)
  intro ρ' H' ⟨c1, c2⟩ w' a' hm' ho'
  exact ⟨c1 w' hm', c2 w' a' hm' (c1 w' hm') ho'⟩

theorem aw_one (i : Nat) {o : Oper} (hi : ops[i]? = some o) (h : StepO P n w0 o ρ H (fun ρ' H' => (∀ w, Mem w0 H' w → Mem w0 Hs w) ∧ AW P n w0 ops K Hs fuel (listed.setIfInBounds i true) ρ' H'))
    (hg : o.guard = none := by rfl)
    (hr : Region.ready .any ops listed = [i] := by kernel_rfl) : AW P n w0 ops K Hs (fuel + 1) listed ρ H := by
  intro w a hm hms ho
  refine wpAnyH_all hr (by simp) fun j hj => ?_
  simp at hj; subst hj
  exact One.wpOp ⟨o, hi, hg, h⟩ hm ho

theorem aw_two (i j : Nat) (h1 : One P n w0 ops K Hs fuel listed ρ H i) (h2 : One P n w0 ops K Hs fuel listed ρ H j)
    (hr : Region.ready .any ops listed = [i, j] := by kernel_rfl) : AW P n w0 ops K Hs (fuel + 1) listed ρ H := by
  intro w a hm hms ho
  refine wpAnyH_all hr (by simp) fun k hk => ?_
  simp at hk
  rcases hk with rfl | rfl
  · exact h1.wpOp hm ho
  · exact h2.wpOp hm ho

end any

/-! ### Code -/

theorem cw_seq {x y : Code} (h : ∀ K : Act → World → Prop, (∀ ρ H, CW P n w0 y Q ρ H → KW n w0 K ρ H) → CW P n w0 x (Exit.then K Q) ρ H) : CW P n w0 (.seq x y) Q ρ H :=
  fun w a hm ho => wp_seq (h (y.wp P Q) (fun _ _ hk => hk) w a hm ho)

theorem cw_skip (h : KW n w0 (fun a w => Q .normal a w) ρ H) : CW P n w0 .skip Q ρ H := fun w a hm ho => wp_skip (h w a hm ho)
theorem cw_ret (h : KW n w0 (fun a w => Q .ret a w) ρ H) : CW P n w0 .ret Q ρ H := fun w a hm ho => wp_ret (h w a hm ho)
theorem cw_exit {id : Nat} (h : KW n w0 (fun a w => Q (.exit id) a w) ρ H) : CW P n w0 (.exit id) Q ρ H := fun w a hm ho => wp_exit (h w a hm ho)
theorem cw_block {id : Nat} {c : Code} (h : CW P n w0 c (Exit.inBlock id Q) ρ H) : CW P n w0 (.block id c) Q ρ H := fun w a hm ho => wp_block (h w a hm ho)

theorem cw_region {id : Nat} {l : List Oper} (h : OW P n w0 l.toArray Q l ρ H) : CW P n w0 (.region id l.toArray false) Q ρ H :=
  fun w a hm ho => wp_region_lit (h w a hm ho)

theorem cw_region_any {id : Nat} {ops : Array Oper} (Hs : List Chunk) (hsub : List.Sublist Hs H)
    (h : AW P n w0 ops (fun a w => Q .normal a w) Hs ops.size (Array.replicate ops.size false) ρ H) (hm : P.follows .mixedOrders = true := by kernel_rfl) :
    CW P n w0 (.region id ops true) Q ρ H := by
  intro w a hmm ho
  have hm' := hmm.drawn (w.drawn + 1)
  have := wp_region_held (id := id) (P := P) (Q := fun e a w => e = .normal ∧ Q .normal a w) (S := fun w => Mem w0 Hs w) hm (h _ a hm' (hm'.sub hsub) ho)
  exact wp_mono this (fun e a w hq => by obtain ⟨rfl, hk⟩ := hq; exact hk)

theorem cw_cond {c : Operand} {x y : Code} {t : Bool} (hc : evc ρ c = some (.v (.bool t))) (ht : t = true → CW P n w0 x Q ρ H) (hf : t = false → CW P n w0 y Q ρ H) :
    CW P n w0 (.cond c x y) Q ρ H :=
  fun w a hm ho => wp_cond_split (Gets.eval (.plain hc) ho rfl) (fun h => ht h w a hm ho) (fun h => hf h w a hm ho)

/-- The branch by a proposition. -/
theorem cw_if {c : Operand} {x y : Code} {p : Prop} [Decidable p] (hc : evc ρ c = some (.v (.bool (decide p)))) (ht : p → CW P n w0 x Q ρ H) (hf : ¬ p → CW P n w0 y Q ρ H) :
    CW P n w0 (.cond c x y) Q ρ H := cw_cond hc (fun h => ht (of_decide_eq_true h)) (fun h => hf (of_decide_eq_false h))

/-- A loop: g is the ghost of a round; what the loop's head knows is env g and mem g, under R g. -/
theorem cw_loop {γ : Type} {body : Code} (env : γ → Env) (mem : γ → List Chunk) (R : γ → Prop) (μ : γ → Nat) (g0 : γ) (hR : R g0) (hs : SubL (env g0) ρ)
    (hH : ∀ w, Mem w0 H w → Mem w0 (mem g0) w)
    (round : ∀ g, R g → ∀ K : Act → World → Prop,
      (∀ g' ρ' H', R g' → μ g' < μ g → SubL (env g') ρ' → (∀ w, Mem w0 H' w → Mem w0 (mem g') w) → KW n w0 K ρ' H') → CW P n w0 body (Exit.then K Q) (env g) (mem g)) :
    CW P n w0 (.loop body) Q ρ H := by
  intro w a hm ho
  refine wp_loop_ghost (fun m a w => ∃ g, R g ∧ Mem w0 (mem g) w ∧ Ok n (env g) a ∧ μ g = m) (μ g0) ⟨g0, hR, hH w hm, ho.sub hs.sub, rfl⟩ ?_
  rintro m a w ⟨g, hRg, hmg, hog, rfl⟩
  refine wp_mono (round g hRg (fun a' w' => ∃ g', R g' ∧ Mem w0 (mem g') w' ∧ Ok n (env g') a' ∧ μ g' < μ g) ?_ w a hmg hog) ?_
  · intro g' ρ' H' hR' hlt hsub himp w' a' hm' ho'
    exact ⟨g', hR', himp w' hm', ho'.sub hsub.sub, hlt⟩
  · intro e a' w' h
    cases e with
    | normal => obtain ⟨g', h1, h2, h3, h4⟩ := h; exact ⟨μ g', h4, g', h1, h2, h3, rfl⟩
    | _ => exact h
end

/-! ### Entry and return -/

def argsEnv : Nat → List Value → Env
  | _, [] => []
  | i, v :: r => (i, .v v) :: argsEnv (i + 1) r

theorem argsEnv_get : ∀ (l : List Value) (i t : Nat) (e : EV), look (argsEnv i l) t = some e → ∃ v, e = .v v ∧ i ≤ t ∧ l[t - i]? = some v
  | [], _, _, _, h => by simp [argsEnv, look] at h
  | x :: r, i, t, e, h => by
    simp only [argsEnv, look] at h
    by_cases hb : i = t
    · subst hb
      simp at h
      exact ⟨x, h.symm, Nat.le_refl _, by simp⟩
    · have hb' : Nat.beq i t = false := beq_ne hb
      rw [hb'] at h
      obtain ⟨v, h1, h2, h3⟩ := argsEnv_get r (i + 1) t e h
      refine ⟨v, h1, by omega, ?_⟩
      have : t - i = (t - (i + 1)) + 1 := by omega
      rw [this]
      simpa using h3

theorem calls_cw {P : Program} {f : FuncId} {fn : Func} {c : Code} {args : List Value} {w0 : World} {R : Ending → World → Prop} {H : List Chunk} {w : World}
    (hf : P.funcs[f]? = some fn) (hb : fn.body = some c) (hm : Mem w0 H w) (hl : Nat.ble args.length fn.ntmps = true)
    (h : CW P fn.ntmps w0 c (bodyPost P fn R) (argsEnv 0 args) H) : Calls P f args.toArray w R := by
  refine calls_of_wp hf hb (h w _ hm ⟨?_, rfl, ?_⟩)
  · have : args.length ≤ fn.ntmps := by simpa [Nat.ble_eq] using hl
    simp; omega
  · intro t e he
    obtain ⟨v, rfl, _, hv⟩ := argsEnv_get args 0 t e he
    simp only [Nat.sub_zero] at hv
    have hlt : t < args.length := (List.getElem?_eq_some_iff.1 hv).1
    show _ = some v
    rw [Array.getElem?_append_left (by simpa using hlt)]
    simpa using hv

section
variable {P : Program} {fn : Func} {R : Ending → World → Prop} {n : Nat} {w0 : World} {ρ : Env} {H : List Chunk}

theorem kw_ret1 {t : Tmp} {v : Value} (hr : fn.results = #[.tmp t]) (hv : look ρ t = some (.v v)) (h : ∀ w, Mem w0 H w → R (.returned v) w) :
    KW n w0 (fun a w => bodyPost P fn R .ret a w) ρ H := fun w a hm ho => by
  have := Gets.eval (x := .tmp t) (.plain hv) ho rfl
  simp only [Act.eval] at this
  exact ⟨ho.nodef, v, by rw [results_tmp hr]; rw [this], h w hm⟩

theorem kw_ret0 (hr : fn.results = #[]) (h : ∀ w, Mem w0 H w → R (.returned (.tuple #[])) w) : KW n w0 (fun a w => bodyPost P fn R .ret a w) ρ H :=
  fun w a hm ho => ⟨ho.nodef, .tuple #[], by rw [results_none hr], h w hm⟩
theorem kw_end0 (hr : fn.results = #[]) (h : ∀ w, Mem w0 H w → R (.returned (.tuple #[])) w) : KW n w0 (fun a w => bodyPost P fn R .normal a w) ρ H := kw_ret0 hr h
end

end Go.Eng

namespace Go.Eng
open Go.RowKit

section
variable {P : Program} {n : Nat} {w0 : World} {ρ : Env} {H : List Chunk} {g : Bool}

theorem gl {b x : Bool} (h : (b && x) = true) : b = true := by simp at h; exact h.1

theorem ev_move {x : Operand} {v : Value} (hx : Gets ρ g x v := by first | exact .plain rfl | exact .cond rfl id | exact .cond rfl gl) : Ev P n w0 H ρ g (.move x) v := by
  intro w a dst ty pos aft gd hm ho hg
  have e := hx.eval ho hg
  simp only [execOp, e]; rfl

theorem ev_assign {x : Operand} {v : Value} (hx : Gets ρ g x v := by first | exact .plain rfl | exact .cond rfl id | exact .cond rfl gl) : Ev P n w0 H ρ g (.assign x) v := by
  intro w a dst ty pos aft gd hm ho hg
  have e := hx.eval ho hg
  simp only [execOp, e]; rfl

/-- 'c && y'. -/
theorem ev_and {c y : Operand} {b x : Bool} (hc : Gets ρ g c (.bool b) := by first | exact .plain rfl | exact .cond rfl id | exact .cond rfl gl) (hy : Gets ρ (g && b) y (.bool x) := by first | exact .plain rfl | exact .cond rfl id | exact .cond rfl gl) : Ev P n w0 H ρ g (.pick c y (.const (.bool false))) (.bool (b && x)) := by
  intro w a dst ty pos aft gd hm ho hg
  have e := hc.eval ho hg
  cases b with
  | true =>
    have e2 := hy.eval ho (by simp [hg])
    simp only [execOp, e, e2]; rfl
  | false => simp only [execOp, e]; rfl

/-- 'c || y'. -/
theorem ev_or {c y : Operand} {b x : Bool} (hc : Gets ρ g c (.bool b) := by first | exact .plain rfl | exact .cond rfl id | exact .cond rfl gl) (hy : Gets ρ (g && !b) y (.bool x) := by first | exact .plain rfl | exact .cond rfl id | exact .cond rfl gl) : Ev P n w0 H ρ g (.pick c (.const (.bool true)) y) (.bool (b || x)) := by
  intro w a dst ty pos aft gd hm ho hg
  have e := hc.eval ho hg
  cases b with
  | true => simp only [execOp, e]; rfl
  | false =>
    have e2 := hy.eval ho (by simp [hg])
    simp only [execOp, e, e2]; rfl

/-! integers -/

theorem i64_wrap {x : Int} (h1 : -9223372036854775808 ≤ x) (h2 : x ≤ 9223372036854775807) : IntKind.i64.wrap x = x := by
  simp only [IntKind.wrap, IntKind.signed, IntKind.bits]
  simp
  omega

/-- x is representable. -/
def I64 (x : Int) : Prop := -9223372036854775808 ≤ x ∧ x ≤ 9223372036854775807

theorem ev_add {x y : Operand} {t u : TypeId} {p q : Int} (hx : Gets ρ g x (.int .i64 p) := by first | exact .plain rfl | exact .cond rfl id | exact .cond rfl gl) (hy : Gets ρ g y (.int .i64 q) := by first | exact .plain rfl | exact .cond rfl id | exact .cond rfl gl) (hr : g = true → I64 (p + q) := by first | (intro _; unfold I64; omega) | (intro hg; simp at hg; unfold I64; omega)) :
    Ev P n w0 H ρ g (.binOp .add t x y u) (.int .i64 (p + q)) := by
  intro w a dst ty pos aft gd hm ho hg
  have e1 := hx.eval ho hg
  have e2 := hy.eval ho hg
  have h := i64_wrap (hr hg).1 (hr hg).2
  simp only [execOp, e1, e2]
  show Result.ok (Next.value (.int .i64 (IntKind.i64.wrap (p + q)))) w = _
  rw [h]

theorem ev_sub {x y : Operand} {t u : TypeId} {p q : Int} (hx : Gets ρ g x (.int .i64 p) := by first | exact .plain rfl | exact .cond rfl id | exact .cond rfl gl) (hy : Gets ρ g y (.int .i64 q) := by first | exact .plain rfl | exact .cond rfl id | exact .cond rfl gl) (hr : g = true → I64 (p - q) := by first | (intro _; unfold I64; omega) | (intro hg; simp at hg; unfold I64; omega)) :
    Ev P n w0 H ρ g (.binOp .sub t x y u) (.int .i64 (p - q)) := by
  intro w a dst ty pos aft gd hm ho hg
  have e1 := hx.eval ho hg
  have e2 := hy.eval ho hg
  have h := i64_wrap (hr hg).1 (hr hg).2
  simp only [execOp, e1, e2]
  show Result.ok (Next.value (.int .i64 (IntKind.i64.wrap (p - q)))) w = _
  rw [h]

theorem ev_mul {x y : Operand} {t u : TypeId} {p q : Int} (hx : Gets ρ g x (.int .i64 p) := by first | exact .plain rfl | exact .cond rfl id | exact .cond rfl gl) (hy : Gets ρ g y (.int .i64 q) := by first | exact .plain rfl | exact .cond rfl id | exact .cond rfl gl) (hr : g = true → I64 (p * q) := by first | (intro _; unfold I64; omega) | (intro hg; simp at hg; unfold I64; omega)) :
    Ev P n w0 H ρ g (.binOp .mul t x y u) (.int .i64 (p * q)) := by
  intro w a dst ty pos aft gd hm ho hg
  have e1 := hx.eval ho hg
  have e2 := hy.eval ho hg
  have h := i64_wrap (hr hg).1 (hr hg).2
  simp only [execOp, e1, e2]
  show Result.ok (Next.value (.int .i64 (IntKind.i64.wrap (p * q)))) w = _
  rw [h]

theorem ev_rem {x y : Operand} {t u : TypeId} {k : IntKind} {p q : Int} (hx : Gets ρ g x (.int k p) := by first | exact .plain rfl | exact .cond rfl id | exact .cond rfl gl) (hy : Gets ρ g y (.int k q) := by first | exact .plain rfl | exact .cond rfl id | exact .cond rfl gl) (hq : g = true → q ≠ 0 := by first | (intro _; decide) | (intro _; omega) | (intro hg; simp at hg; omega)) :
    Ev P n w0 H ρ g (.binOp .rem t x y u) (.int k (p.tmod q)) := by
  intro w a dst ty pos aft gd hm ho hg
  have h := hq hg
  simp only [execOp, hx.eval ho hg, hy.eval ho hg]
  cases k <;> (simp only [binOp, eqGuard, Op.intDiv]; simp [go_sem, h])
theorem ev_quo {x y : Operand} {t u : TypeId} {k : IntKind} {p q : Int} (hx : Gets ρ g x (.int k p) := by first | exact .plain rfl | exact .cond rfl id | exact .cond rfl gl) (hy : Gets ρ g y (.int k q) := by first | exact .plain rfl | exact .cond rfl id | exact .cond rfl gl) (hq : g = true → q ≠ 0 := by first | (intro _; decide) | (intro _; omega) | (intro hg; simp at hg; omega)) :
    Ev P n w0 H ρ g (.binOp .quo t x y u) (.int k (k.wrap (p.tdiv q))) := by
  intro w a dst ty pos aft gd hm ho hg
  have h := hq hg
  simp only [execOp, hx.eval ho hg, hy.eval ho hg]
  cases k <;> (simp only [binOp, eqGuard, Op.intDiv]; simp [go_sem, h])

theorem ev_lss {x y : Operand} {t u : TypeId} {k : IntKind} {p q : Int} (hx : Gets ρ g x (.int k p) := by first | exact .plain rfl | exact .cond rfl id | exact .cond rfl gl) (hy : Gets ρ g y (.int k q) := by first | exact .plain rfl | exact .cond rfl id | exact .cond rfl gl) :
    Ev P n w0 H ρ g (.binOp .lss t x y u) (.bool (decide (p < q))) := by
  intro w a dst ty pos aft gd hm ho hg
  simp only [execOp, hx.eval ho hg, hy.eval ho hg]
  cases k <;> rfl
theorem ev_leq {x y : Operand} {t u : TypeId} {k : IntKind} {p q : Int} (hx : Gets ρ g x (.int k p) := by first | exact .plain rfl | exact .cond rfl id | exact .cond rfl gl) (hy : Gets ρ g y (.int k q) := by first | exact .plain rfl | exact .cond rfl id | exact .cond rfl gl) :
    Ev P n w0 H ρ g (.binOp .leq t x y u) (.bool (decide (p ≤ q))) := by
  intro w a dst ty pos aft gd hm ho hg
  simp only [execOp, hx.eval ho hg, hy.eval ho hg]
  cases k <;> rfl
theorem ev_gtr {x y : Operand} {t u : TypeId} {k : IntKind} {p q : Int} (hx : Gets ρ g x (.int k p) := by first | exact .plain rfl | exact .cond rfl id | exact .cond rfl gl) (hy : Gets ρ g y (.int k q) := by first | exact .plain rfl | exact .cond rfl id | exact .cond rfl gl) :
    Ev P n w0 H ρ g (.binOp .gtr t x y u) (.bool (decide (q < p))) := by
  intro w a dst ty pos aft gd hm ho hg
  simp only [execOp, hx.eval ho hg, hy.eval ho hg]
  cases k <;> rfl
theorem ev_geq {x y : Operand} {t u : TypeId} {k : IntKind} {p q : Int} (hx : Gets ρ g x (.int k p) := by first | exact .plain rfl | exact .cond rfl id | exact .cond rfl gl) (hy : Gets ρ g y (.int k q) := by first | exact .plain rfl | exact .cond rfl id | exact .cond rfl gl) :
    Ev P n w0 H ρ g (.binOp .geq t x y u) (.bool (decide (q ≤ p))) := by
  intro w a dst ty pos aft gd hm ho hg
  simp only [execOp, hx.eval ho hg, hy.eval ho hg]
  cases k <;> rfl
theorem ev_eql {x y : Operand} {t u : TypeId} {k : IntKind} {p q : Int} (hx : Gets ρ g x (.int k p) := by first | exact .plain rfl | exact .cond rfl id | exact .cond rfl gl) (hy : Gets ρ g y (.int k q) := by first | exact .plain rfl | exact .cond rfl id | exact .cond rfl gl) :
    Ev P n w0 H ρ g (.binOp .eql t x y u) (.bool (decide (p = q))) := by
  intro w a dst ty pos aft gd hm ho hg
  have h : (p == q) = decide (p = q) := by by_cases e : p = q <;> simp [e]
  simp only [execOp, hx.eval ho hg, hy.eval ho hg]
  cases k <;> (show Result.ok (Next.value (.bool (p == q))) w = _; rw [h])
theorem ev_neq {x y : Operand} {t u : TypeId} {k : IntKind} {p q : Int} (hx : Gets ρ g x (.int k p) := by first | exact .plain rfl | exact .cond rfl id | exact .cond rfl gl) (hy : Gets ρ g y (.int k q) := by first | exact .plain rfl | exact .cond rfl id | exact .cond rfl gl) :
    Ev P n w0 H ρ g (.binOp .neq t x y u) (.bool (decide (p ≠ q))) := by
  intro w a dst ty pos aft gd hm ho hg
  have h : (p != q) = decide (p ≠ q) := by by_cases e : p = q <;> simp [e]
  simp only [execOp, hx.eval ho hg, hy.eval ho hg]
  cases k <;> (show Result.ok (Next.value (.bool (p != q))) w = _; rw [h])

theorem ev_not {x : Operand} {t : TypeId} {b : Bool} (hx : Gets ρ g x (.bool b) := by first | exact .plain rfl | exact .cond rfl id | exact .cond rfl gl) : Ev P n w0 H ρ g (.unOp .not t x) (.bool (!b)) := by
  intro w a dst ty pos aft gd hm ho hg
  simp only [execOp, hx.eval ho hg]; rfl
theorem ev_neg {x : Operand} {t : TypeId} {p : Int} (hx : Gets ρ g x (.int .i64 p) := by first | exact .plain rfl | exact .cond rfl id | exact .cond rfl gl) (hr : g = true → I64 (-p) := by first | (intro _; unfold I64; omega) | (intro hg; simp at hg; unfold I64; omega)) : Ev P n w0 H ρ g (.unOp .neg t x) (.int .i64 (-p)) := by
  intro w a dst ty pos aft gd hm ho hg
  have h := i64_wrap (hr hg).1 (hr hg).2
  simp only [execOp, hx.eval ho hg]
  show Result.ok (Next.value (.int .i64 (IntKind.i64.wrap (0 - p)))) w = _
  rw [Int.zero_sub, h]

/-! tuples, strings, lengths -/

theorem ev_extract {x : Operand} {vs : List Value} {i : Nat} {v : Value} (hx : Gets ρ g x (.tuple vs.toArray) := by first | exact .plain rfl | exact .cond rfl id | exact .cond rfl gl) (hv : vs[i]? = some v := by rfl) : Ev P n w0 H ρ g (.extract x i) v := by
  intro w a dst ty pos aft gd hm ho hg
  simp only [execOp, hx.eval ho hg, Instr.extract]
  simp [hv, go_sem]

def isSliceT (P : Program) (t : TypeId) : Bool := match P.underlying t with | some (.slice _) => true | _ => false
def isStringT (P : Program) (t : TypeId) : Bool := match P.underlying t with | some .string => true | _ => false

theorem run_bind_ok {α β : Type} {x : Sem α} {f : α → Sem β} {w w' : World} {a : α} (h : x.run P w = .ok a w') : (x >>= f).run P w = (f a).run P w' := by
  show (Sem.bind x f).run P w = _
  induction x generalizing w with
  | pure b => simp only [Sem.run, Result.ok.injEq] at h; obtain ⟨rfl, rfl⟩ := h; rfl
  | halt h' => simp [Sem.run] at h
  | load m p k ih =>
    simp only [Sem.run] at h
    simp only [Sem.bind, Sem.run]
    split at h
    · exact ih _ h
    · split at h
      · exact ih _ h
      · simp at h
  | store m p v k ih =>
    cases v <;> simp only [Sem.run] at h <;> simp only [Sem.bind, Sem.run] <;> first
      | (simp at h; done)
      | (split at h
         · split at h
           · simp at h
           · rename_i hf; rw [if_neg hf]; exact ih h
         · split at h
           · exact ih h
           · simp at h)
  | new o k ih => exact ih _ h
  | shape r k ih => exact ih _ h
  | freeze p m k ih => exact ih h
  | frozen p k ih => exact ih _ h
  | getObj r k ih =>
    simp only [Sem.run] at h
    simp only [Sem.bind, Sem.run]
    split at h
    · simp at h
    · exact ih _ h
    · simp at h
  | setObj r o k ih =>
    simp only [Sem.run] at h
    simp only [Sem.bind, Sem.run]
    split at h
    · simp at h
    · exact ih h
    · simp at h
  | choose q k ih =>
    simp only [Sem.run] at h
    simp only [Sem.bind, Sem.run]
    split at h
    · rename_i hf; rw [if_pos hf]; exact ih _ h
    · rename_i hf; rw [if_neg hf]; exact ih _ h
  | sys c k ih => exact ih _ h
  | program k ih => exact ih _ h
  | mark m k ih => exact ih h

theorem run_under {t : TypeId} {d : TypeDesc} (hu : P.underlying t = some d) (w : World) : (underlying t).run P w = .ok d w := by
  show (Sem.bind (Sem.program .pure) _).run P w = _
  simp only [Sem.bind, Sem.run, hu]
  rfl

theorem run_info {t : TypeId} {d : TypeInfo} (hu : P.info? t = some d) (w : World) : (typeInfo t).run P w = .ok d w := by
  show (Sem.bind (Sem.program .pure) _).run P w = _
  simp only [Sem.bind, Sem.run, hu]
  rfl

theorem run_size {t : TypeId} {d : TypeInfo} (hu : P.info? t = some d) (w : World) : (sizeOf t).run P w = .ok d.size w := by
  unfold sizeOf
  rw [run_bind_ok (run_info hu w)]
  rfl

/-- What an operation that is one value's reckoning does. -/
theorem run_value {s : Sem Value} {w w' : World} {v : Value} (h : s.run P w = .ok v w') : (s >>= fun v => (pure (Next.value v) : Sem Next)).run P w = .ok (.value v) w' := by
  rw [run_bind_ok h]
  rfl

theorem exec_builtin1 (ev : Operand → Value) (b : Builtin) (x : Operand) (ts : Array TypeId) (dst : Option Tmp) (ty : TypeId) (pos : String) (aft : Array Edge) (gd : Option (Nat × Bool)) :
    ∃ cs, execOp ev ⟨dst, .call { callee := .builtin b, args := #[x], argTypes := ts }, ty, pos, aft, gd⟩ = builtin b ts ty cs #[ev x] := by
  refine ⟨#[x].map fun | .const _ => true | _ => false, ?_⟩
  simp only [execOp, resolve, List.map_toArray, List.map_cons, List.map_nil]
  rfl

theorem exec_builtin2 (ev : Operand → Value) (b : Builtin) (x y : Operand) (ts : Array TypeId) (dst : Option Tmp) (ty : TypeId) (pos : String) (aft : Array Edge) (gd : Option (Nat × Bool)) :
    ∃ cs, execOp ev ⟨dst, .call { callee := .builtin b, args := #[x, y], argTypes := ts }, ty, pos, aft, gd⟩ = builtin b ts ty cs #[ev x, ev y] := by
  refine ⟨#[x, y].map fun | .const _ => true | _ => false, ?_⟩
  simp only [execOp, resolve, List.map_toArray, List.map_cons, List.map_nil]
  rfl

theorem ev_len {x : Operand} {t : TypeId} {ad : Option Addr} {m c : Nat} (hx : Gets ρ g x (.slice ad m c) := by first | exact .plain rfl | exact .cond rfl id | exact .cond rfl gl) (ht : isSliceT P t = true := by kernel_rfl) :
    Ev P n w0 H ρ g (.call { callee := .builtin .len, args := #[x], argTypes := #[t] }) (.int .i64 (m : Int)) := by
  intro w a dst ty pos aft gd hm ho hg
  have e := hx.eval ho hg
  obtain ⟨cs, hc⟩ := exec_builtin1 a.eval .len x #[t] dst ty pos aft gd
  unfold isSliceT at ht
  split at ht
  · rename_i el hu
    rw [hc, e]
    refine run_value (s := Builtin.len_ #[t] ty #[.slice ad m c]) ?_
    show (underlying t >>= _).run P w = _
    rw [run_bind_ok (run_under hu w)]
    rfl
  · cases ht

theorem ev_len_str {x : Operand} {t : TypeId} {s : ByteArray} (hx : Gets ρ g x (.string s) := by first | exact .plain rfl | exact .cond rfl id | exact .cond rfl gl) (ht : isStringT P t = true := by kernel_rfl) :
    Ev P n w0 H ρ g (.call { callee := .builtin .len, args := #[x], argTypes := #[t] }) (.int .i64 (s.size : Int)) := by
  intro w a dst ty pos aft gd hm ho hg
  have e := hx.eval ho hg
  obtain ⟨cs, hc⟩ := exec_builtin1 a.eval .len x #[t] dst ty pos aft gd
  unfold isStringT at ht
  split at ht
  · rename_i hu
    rw [hc, e]
    refine run_value (s := Builtin.len_ #[t] ty #[.string s]) ?_
    show (underlying t >>= _).run P w = _
    rw [run_bind_ok (run_under hu w)]
    rfl
  · cases ht

/-! addresses -/

/-- The place of a field: its offset in cells. -/
def fieldOff (P : Program) (s : TypeId) (i : Nat) : Option Nat :=
  match P.underlying s with
  | some (.struct fs) => match fs[i]? with
    | some f => match P.info? f.type with
      | some ti => if ti.size = 0 then none else some f.offset
      | none => none
    | none => none
  | _ => none

theorem ev_field_addr {x : Operand} {s i b o : Nat} (off : Nat) (hx : Gets ρ g x (.pointer (some ⟨b, o, none⟩)) := by first | exact .plain rfl | exact .cond rfl id | exact .cond rfl gl) (hf : fieldOff P s i = some off := by kernel_rfl) :
    Ev P n w0 H ρ g (.fieldAddr s x i) (.pointer (some ⟨b, o + off, none⟩)) := by
  intro w a dst ty pos aft gd hm ho hg
  have e := hx.eval ho hg
  unfold fieldOff at hf
  split at hf
  · rename_i fs hu
    split at hf
    · rename_i f hfi
      split at hf
      · rename_i ti hti
        split at hf
        · cases hf
        · rename_i hsz
          simp at hf
          subst hf
          show (Instr.fieldAt s (a.eval x) i >>= fun v => pure (Next.value v)).run P w = _
          rw [e]
          refine run_value ?_
          unfold Instr.fieldAt
          rw [run_bind_ok (run_under hu w)]
          simp only [hfi]
          show (fieldPlace ⟨b, o, none⟩ f >>= fun r => pure (Value.pointer (some r))).run P w = _
          have hp : (fieldPlace ⟨b, o, none⟩ f).run P w = .ok ⟨b, o + f.offset, none⟩ w := by
            unfold fieldPlace
            rw [run_bind_ok (run_size hti w), if_neg hsz]
            by_cases h0 : f.offset = 0
            · simp [Addr.add, h0, go_sem]
            · simp [Addr.add, h0, go_sem]
          rw [run_bind_ok hp]
          rfl
      · cases hf
    · cases hf
  · cases hf

/-- The number of cells of an element of a slice type. -/
def elemSize (P : Program) (t : TypeId) : Option Nat :=
  match P.underlying t with
  | some (.slice e) => (P.info? e).map (·.size)
  | _ => none

/-! loads -/

def oneT (P : Program) (t : TypeId) : Bool :=
  match P.underlying t with
  | some (.struct _) | some (.array _ _) | none => false
  | _ => true

theorem run_isAgg_false {t : TypeId} (h : oneT P t = true) (w : World) : (isAgg t).run P w = .ok false w := by
  unfold oneT at h
  cases hu : P.underlying t with
  | none => rw [hu] at h; cases h
  | some d =>
    rw [hu] at h
    unfold isAgg
    rw [run_bind_ok (run_under hu w)]
    cases d <;> first | rfl | cases h

theorem run_loadVar_one {t : TypeId} {p : Addr} {v : Value} {w : World} (ht : oneT P t = true) (hc : w.cell? p = some v) : (loadVar t p).run P w = .ok v w := by
  unfold loadVar
  rw [run_bind_ok (run_isAgg_false ht w)]
  show (load p).run P w = _
  simp [load, Sem.run, hc]

theorem ev_load_cell {x : Operand} {t : TypeId} {p : Addr} {v : Value} (hx : Gets ρ g x (.pointer (some p)) := by first | exact .plain rfl | exact .cond rfl id | exact .cond rfl gl) (ht : oneT P t = true)
    (hc : g = true → ∀ w, Mem w0 H w → w.cell? p = some v) : Ev P n w0 H ρ g (.load t x) v := by
  intro w a dst ty pos aft gd hm ho hg
  have e := hx.eval ho hg
  show (Instr.loadAt t (a.eval x) >>= fun v => pure (Next.value v)).run P w = _
  rw [e]
  exact run_value (s := loadVar t p) (run_loadVar_one ht (hc hg w hm))

theorem own_cell {b T : Nat} {l : List Value} {w : World} {o : Nat} {v : Value} (h : (own b T l).φ w) (hv : l[o]? = some v) : w.cell? ⟨b, o, none⟩ = some v := by
  have h' : w.heap[b]? = some (.cells l.toArray T (0, 0)) := h
  simp [World.cell?, h', hv]

theorem ev_load_own {x : Operand} {t b o T : Nat} {l : List Value} {v : Value} (hx : Gets ρ g x (.pointer (some ⟨b, o, none⟩)) := by first | exact .plain rfl | exact .cond rfl id | exact .cond rfl gl) (hh : Has H (own b T l) := by repeat (first | exact Has.head | apply Has.tail)) (hv : l[o]? = some v := by rfl)
    (ht : oneT P t = true := by kernel_rfl) : Ev P n w0 H ρ g (.load t x) v :=
  ev_load_cell hx ht fun _ _ hm => own_cell (hh.φ hm) hv

def aggT (P : Program) (t : TypeId) : Option Nat :=
  match P.underlying t with
  | some (.struct _) | some (.array _ _) => (P.info? t).map (·.size)
  | _ => none

theorem run_loadCellsFrom {p : Addr} {w : World} : ∀ (m i : Nat) (acc : Array Value) (l : List Value), l.length = m → (∀ j v, l[j]? = some v → w.cell? (p.add (i + j)) = some v) →
    (loadCellsFrom p i m acc).run P w = .ok (acc ++ l.toArray) w
  | 0, i, acc, l, hl, _ => by
    have : l = [] := List.length_eq_zero_iff.1 hl
    subst this
    simp [loadCellsFrom, go_sem]
  | m + 1, i, acc, l, hl, hc => by
    match l, hl with
    | v :: l, hl =>
      have h0 := hc 0 v (by simp)
      have ih := run_loadCellsFrom m (i + 1) (acc.push v) l (by simpa using hl) (fun j u hu => by
        have := hc (j + 1) u (by simpa using hu)
        rw [show i + 1 + j = i + (j + 1) by omega]; exact this)
      simp only [Nat.add_zero] at h0
      show (Sem.load _ _ _).run P w = _
      simp only [Sem.run, h0]
      show (loadCellsFrom p (i + 1) m (acc.push v)).run P w = _
      rw [ih]
      simp

theorem run_loadVar_agg {t m : Nat} {p : Addr} {l : List Value} {w : World} (ht : aggT P t = some m) (hl : l.length = m) (hc : ∀ j v, l[j]? = some v → w.cell? (p.add j) = some v) :
    (loadVar t p).run P w = .ok (.agg l.toArray) w := by
  unfold aggT at ht
  have key : ∀ d, P.underlying t = some d → (d matches .struct _ | .array _ _) → (P.info? t).map (·.size) = some m → (loadVar t p).run P w = .ok (.agg l.toArray) w := by
    intro d hu hd hs
    cases hti : P.info? t with
    | none => rw [hti] at hs; cases hs
    | some ti =>
      rw [hti] at hs
      simp at hs
      subst hs
      have hx := run_loadCellsFrom (P := P) (p := p) (w := w) ti.size 0 #[] l hl (fun j v hv => by rw [Nat.zero_add]; exact hc j v hv)
      have ha : (isAgg t).run P w = .ok true w := by
        unfold isAgg
        rw [run_bind_ok (run_under hu w)]
        cases d <;> first | rfl | (cases hd; done)
      unfold loadVar
      rw [run_bind_ok ha]
      simp only [if_true]
      rw [run_bind_ok (run_size hti w)]
      have hx' : (loadCells p ti.size).run P w = .ok l.toArray w := by rw [loadCells, hx]; simp
      rw [run_bind_ok hx']
      rfl
  split at ht
  · rename_i hu; exact key _ hu rfl ht
  · rename_i hu; exact key _ hu rfl ht
  · cases ht

theorem ev_load_agg {x : Operand} {t m : Nat} {p : Addr} {l : List Value} (hx : Gets ρ g x (.pointer (some p)) := by first | exact .plain rfl | exact .cond rfl id | exact .cond rfl gl) (ht : aggT P t = some m) (hl : l.length = m)
    (hc : g = true → ∀ w, Mem w0 H w → ∀ j v, l[j]? = some v → w.cell? (p.add j) = some v) : Ev P n w0 H ρ g (.load t x) (.agg l.toArray) := by
  intro w a dst ty pos aft gd hm ho hg
  have e := hx.eval ho hg
  show (Instr.loadAt t (a.eval x) >>= fun v => pure (Next.value v)).run P w = _
  rw [e]
  exact run_value (s := loadVar t p) (run_loadVar_agg ht hl (hc hg w hm))

/-- A whole struct out of a block of its own. -/
theorem ev_load_all {x : Operand} {t b T m : Nat} {l : List Value} (hx : Gets ρ g x (.pointer (some ⟨b, 0, none⟩)) := by first | exact .plain rfl | exact .cond rfl id | exact .cond rfl gl) (hh : Has H (own b T l) := by repeat (first | exact Has.head | apply Has.tail)) (hl : l.length = m := by rfl)
    (ht : aggT P t = some m := by kernel_rfl) : Ev P n w0 H ρ g (.load t x) (.agg l.toArray) :=
  ev_load_agg hx ht hl fun _ _ hm j v hv => by
    have := own_cell (hh.φ hm) hv
    by_cases h0 : j = 0
    · subst h0; exact this
    · simp only [Addr.add, h0, if_false, Nat.zero_add]; exact this

/-! building values -/

/-- The cells of a struct value out of its parts, all of which are given in order. -/
theorem ev_build_of {t : TypeId} {parts : List (Nat × Operand)} {l : List Value} {vs : List (Nat × Value)}
    (hv : g = true → ∀ a, Ok n ρ a → parts.map (fun p => (p.1, a.eval p.2)) = vs) (hb : ∀ w, (Instr.build t vs.toArray).run P w = .ok (.agg l.toArray) w) :
    Ev P n w0 H ρ g (.build t parts.toArray) (.agg l.toArray) := by
  intro w a dst ty pos aft gd hm ho hg
  have e := hv hg a ho
  show (Instr.build t (parts.toArray.map fun (i, x) => (i, a.eval x)) >>= fun v => pure (Next.value v)).run P w = _
  refine run_value ?_
  have : (parts.toArray.map fun (i, x) => (i, a.eval x)) = vs.toArray := by rw [← e]; simp
  rw [this]
  exact hb w

/-! ### Effects -/
variable {C : Env → List Chunk → Prop}

theorem st_box {x : Operand} {T d : Nat} {ty : TypeId} {pos : String} {aft : Array Edge} {gd : Option (Nat × Bool)} {l : List Value} (hx : Gets ρ true x (.agg l.toArray) := by first | exact .plain rfl | exact .cond rfl id | exact .cond rfl gl)
    (k : ∀ b, C ((d, .v (.pointer (some ⟨b, 0, none⟩))) :: ρ) (own b T l :: H)) (hd : Nat.blt d n = true := by rfl) : StepO P n w0 ⟨some d, .box T x, ty, pos, aft, gd⟩ ρ H C := by
  intro K Q hs w a hm ho
  have e := hx.eval ho rfl
  have hr : (execOp a.eval ⟨some d, .box T x, ty, pos, aft, gd⟩).run P w = .ok (.value (.pointer (some ⟨w.heap.size, 0, none⟩))) (w.alloc (.cells l.toArray T)) := by
    show (Instr.box T (a.eval x) >>= fun v => pure (Next.value v)).run P w = _
    rw [e]
    rfl
  unfold Oper.wp
  rw [hr]
  exact hs _ _ (k w.heap.size) _ _ (hm.alloc l T) (ho.put (by simpa [Nat.blt_eq] using hd) rfl)

/-- The zero value's cells of a type. -/
def zeroT (P : Program) (t : TypeId) : Option (List Value) := ((P.info? t).bind (·.zero)).map (·.cells.toList)

theorem st_alloc {T d : Nat} {ty : TypeId} {pos : String} {aft : Array Edge} {gd : Option (Nat × Bool)} {l : List Value} (hz : zeroT P T = some l)
    (k : ∀ b, C ((d, .v (.pointer (some ⟨b, 0, none⟩))) :: ρ) (own b T l :: H)) (hd : Nat.blt d n = true := by rfl) : StepO P n w0 ⟨some d, .alloc T, ty, pos, aft, gd⟩ ρ H C := by
  intro K Q hs w a hm ho
  unfold zeroT at hz
  cases hi : P.info? T with
  | none => rw [hi] at hz; cases hz
  | some i =>
    cases hzz : i.zero with
    | none => rw [hi] at hz; simp [hzz] at hz
    | some z =>
      rw [hi] at hz
      simp [hzz] at hz
      have hzr : (zeroValue T).run P w = .ok z w := by
        unfold zeroValue
        rw [run_bind_ok (run_info hi w)]
        simp only [hzz]
        rfl
      have hr : (execOp a.eval ⟨some d, .alloc T, ty, pos, aft, gd⟩).run P w = .ok (.value (.pointer (some ⟨w.heap.size, 0, none⟩))) (w.alloc (.cells l.toArray T)) := by
        show (Instr.alloc T true (.tuple #[]) >>= fun v => pure (Next.value v)).run P w = _
        refine run_value ?_
        unfold Instr.alloc
        rw [run_bind_ok hzr]
        have : z.cells = l.toArray := by rw [← hz]
        show (do pure (Value.pointer (some (← newVar T z))) : Sem Value).run P w = _
        unfold newVar
        rw [this]
        rfl
      unfold Oper.wp
      rw [hr]
      exact hs _ _ (k w.heap.size) _ _ (hm.alloc l T) (ho.put (by simpa [Nat.blt_eq] using hd) rfl)

theorem heap_setCell_own {w : World} {b T o : Nat} {l : List Value} {v : Value} (h : (own b T l).φ w) : (own b T (l.set o v)).φ (w.setCell ⟨b, o, none⟩ v) := by
  have h' : w.heap[b]? = some (.cells l.toArray T (0, 0)) := h
  show (w.setCell ⟨b, o, none⟩ v).heap[b]? = _
  simp [World.setCell, Array.getElem?_modify, h']

theorem Frame.setCell {w : World} {b o : Nat} {v : Value} : Frame (fun k => k = b) w (w.setCell ⟨b, o, none⟩ v) :=
  ⟨rfl, rfl, rfl, by simp [World.setCell], fun k _ hn => Below.heap_setCell _ _ _ _ hn⟩

/-- Cells, one behind the other, into a block of the call's own. -/
def setAll : List Value → Nat → List Value → List Value
  | l, _, [] => l
  | l, o, v :: vs => setAll (l.set o v) (o + 1) vs

theorem run_storeCells {b T : Nat} : ∀ (vs : List Value) (i : Nat) (o : Nat) (l : List Value) (w : World), (own b T l).φ w → o + i + vs.length ≤ l.length → (∀ v ∈ vs, v.oneCell' = true) →
    ∃ w', (storeCells ⟨b, o, none⟩ vs i).run P w = .ok () w' ∧ Frame (fun k => k = b) w w' ∧ w'.heap.size = w.heap.size ∧ (own b T (setAll l (o + i) vs)).φ w'
  | [], i, o, l, w, h, _, _ => ⟨w, rfl, Frame.refl _ _, rfl, h⟩
  | v :: vs, i, o, l, w, h, hl, h1 => by
    simp only [List.length_cons] at hl
    have hc : w.cell? ⟨b, o + i, none⟩ = some (l[o + i]'(by omega)) := own_cell h (by simp)
    have hadd : Addr.add ⟨b, o, none⟩ i = ⟨b, o + i, none⟩ := by
      by_cases h0 : i = 0
      · simp [Addr.add, h0]
      · simp [Addr.add, h0]
    have hfz : w.frozen? ⟨b, o + i, none⟩ = false := by
      have h' : w.heap[b]? = some (.cells l.toArray T (0, 0)) := h
      simp [World.frozen?, h']
    have hv := h1 v List.mem_cons_self
    obtain ⟨w', hr, hf, hsz, ho⟩ := run_storeCells vs (i + 1) o (l.set (o + i) v) (w.setCell ⟨b, o + i, none⟩ v) (heap_setCell_own h) (by simp; omega) (fun u hu => h1 u (List.mem_cons_of_mem _ hu))
    refine ⟨w', ?_, (Frame.setCell).trans hf, hsz.trans (by simp [World.setCell]), by rw [show o + (i + 1) = o + i + 1 by omega] at ho; exact ho⟩
    have hst : (store (Addr.add ⟨b, o, none⟩ i) v).run P w = .ok () (w.setCell ⟨b, o + i, none⟩ v) := by
      rw [hadd]
      cases v <;> first
        | (simp [Value.oneCell'] at hv; done)
        | (simp only [store, Sem.run, hc, hfz]; rfl)
    show (store _ _ >>= fun _ => storeCells ⟨b, o, none⟩ vs (i + 1)).run P w = _
    rw [run_bind_ok hst]
    exact hr

theorem st_store_own {x y : Operand} {t b o T m : Nat} {ty : TypeId} {pos : String} {aft : Array Edge} {gd : Option (Nat × Bool)} {l l' vs : List Value} {v : Value} {H' : List Chunk}
    (hx : Gets ρ true x (.pointer (some ⟨b, o, none⟩)) := by first | exact .plain rfl | exact .cond rfl id | exact .cond rfl gl) (hy : Gets ρ true y v := by first | exact .plain rfl | exact .cond rfl id | exact .cond rfl gl) (hvs : v.cells = vs.toArray := by rfl)
    (hlen : vs.length = m := by rfl) (hu : Upd H (own b T l) (own b T l') H' := by repeat (first | exact Upd.head | apply Upd.tail))
    (hl0 : Nat.ble (o + m) l.length = true := by rfl) (h10 : vs.all Value.oneCell' = true := by rfl) (he : setAll l o vs = l' := by rfl)
    (ht : P.cellsOf t = m := by kernel_rfl) (hti : (P.info? t).isSome = true := by kernel_rfl) (k : C ρ H') : StepO P n w0 ⟨none, .store t x y, ty, pos, aft, gd⟩ ρ H C := by
  have hl : o + m ≤ l.length := by simpa [Nat.ble_eq] using hl0
  have h1 : ∀ v ∈ vs, v.oneCell' = true := List.all_eq_true.1 h10
  intro K Q hs w a hm ho
  have e1 := hx.eval ho rfl
  have e2 := hy.eval ho rfl
  subst he
  cases hi : P.info? t with
  | none => rw [hi] at hti; cases hti
  | some i =>
    have hsz : i.size = m := by simpa [Program.cellsOf, hi] using ht
    obtain ⟨w', hr, hf, hsz', ho'⟩ := run_storeCells (P := P) vs 0 o l w (hu.has.φ hm) (by omega) h1
    have hrun : (execOp a.eval ⟨none, .store t x y, ty, pos, aft, gd⟩).run P w = .ok .skip w' := by
      show ((Instr.storeAt t (a.eval x) (a.eval y)) >>= fun _ => pure Next.skip).run P w = _
      rw [e1, e2]
      have : (Instr.storeAt t (.pointer (some ⟨b, o, none⟩)) v).run P w = .ok () w' := by
        show (storeVar t ⟨b, o, none⟩ v).run P w = _
        unfold storeVar
        rw [run_bind_ok (run_size hi w), hvs]
        have hsz2 : ¬ (vs.toArray.size ≠ i.size) := by simp [hlen, hsz]
        simp only [hsz2, if_false]
        exact hr
      rw [run_bind_ok this]
      rfl
    unfold Oper.wp
    rw [hrun]
    refine hs _ _ k w' _ (hm.upd hu hf ho' (fun k hk => ?_)) ho
    have : k = b := hk
    subst this
    exact ⟨.inl rfl, by rw [hsz']; exact hu.has.lt hm rfl⟩

theorem setAll_whole : ∀ (vs l pre : List Value), l.length = vs.length → setAll (pre ++ l) pre.length vs = pre ++ vs
  | [], l, pre, h => by
    have : l = [] := List.length_eq_zero_iff.1 h
    subst this; rfl
  | v :: vs, [], pre, h => by simp at h
  | v :: vs, u :: l, pre, h => by
    have ih := setAll_whole vs l (pre ++ [v]) (by simpa using h)
    simp only [setAll]
    have e : (pre ++ u :: l).set pre.length v = (pre ++ [v]) ++ l := by simp
    rw [e]
    simpa using ih

/-- A whole block is written anew. -/
theorem st_store_all {x y : Operand} {t b T m : Nat} {ty : TypeId} {pos : String} {aft : Array Edge} {gd : Option (Nat × Bool)} {l vs : List Value} {v : Value} {H' : List Chunk}
    (hx : Gets ρ true x (.pointer (some ⟨b, 0, none⟩)) := by first | exact .plain rfl | exact .cond rfl id | exact .cond rfl gl) (hy : Gets ρ true y v := by first | exact .plain rfl | exact .cond rfl id | exact .cond rfl gl) (hvs : v.cells = vs.toArray := by rfl)
    (hlen : vs.length = m := by rfl) (hu : Upd H (own b T l) (own b T vs) H' := by repeat (first | exact Upd.head | apply Upd.tail))
    (hl : l.length = m := by rfl) (h10 : vs.all Value.oneCell' = true := by rfl)
    (ht : P.cellsOf t = m := by kernel_rfl) (hti : (P.info? t).isSome = true := by kernel_rfl) (k : C ρ H') : StepO P n w0 ⟨none, .store t x y, ty, pos, aft, gd⟩ ρ H C :=
  st_store_own (k := k) (hx := hx) (hy := hy) (hvs := hvs) (hlen := hlen) (hu := hu) (hl0 := by rw [Nat.ble_eq]; omega) (h10 := h10)
    (he := setAll_whole vs l [] (by omega)) (ht := ht) (hti := hti)

/-! ### Calls -/

def callable (P : Program) (f : FuncId) : Bool :=
  match P.funcs[f]? with
  | some fn => (fn.name != "runtime.NumGoroutine") && fn.body.isSome
  | none => false

/-- The operands' values. -/
inductive GetsAll (ρ : Env) : List Operand → List Value → Prop
  | nil : GetsAll ρ [] []
  | cons {x : Operand} {v : Value} {xs : List Operand} {vs : List Value} : Gets ρ true x v → GetsAll ρ xs vs → GetsAll ρ (x :: xs) (v :: vs)

theorem GetsAll.eval {xs : List Operand} {vs : List Value} {a : Act} (h : GetsAll ρ xs vs) (ho : Ok n ρ a) : xs.map a.eval = vs := by
  induction h with
  | nil => rfl
  | cons h _ ih => simp [h.eval ho rfl, ih]

theorem run_callFunc {f : FuncId} {vs : Array Value} {w : World} (hf : callable P f = true) : (callFunc f vs).run P w = .ok (.enter f vs) w := by
  unfold callable at hf
  cases hp : P.funcs[f]? with
  | none => rw [hp] at hf; cases hf
  | some fn =>
    rw [hp] at hf
    simp only [Bool.and_eq_true, bne_iff_ne, ne_eq] at hf
    unfold callFunc
    show (Sem.bind (Sem.program .pure) _).run P w = _
    simp only [Sem.bind, Sem.run, hp]
    have h1 : (fn.name == "runtime.NumGoroutine") = false := by simpa using hf.1
    have h2 : fn.body.isNone = false := by cases hb : fn.body <;> simp_all
    rw [h1, h2]
    rfl

end
end Go.Eng

namespace Go.Eng
open Go.RowKit

/-! ### Slices that are read -/

def sb : Option Addr → Nat
  | some p => p.block
  | none => 0
def so : Option Addr → Nat
  | some p => p.off
  | none => 0

/-- The cells l lie behind the slice's address a, in a block from lo up to hi. -/
def Sl (lo hi : Nat) (w : World) (a : Option Addr) (l : List Value) : Prop :=
  ∀ j v, l[j]? = some v → a = some ⟨sb a, so a, none⟩ ∧ lo ≤ sb a ∧ sb a < hi ∧ w.cell? ⟨sb a, so a + j, none⟩ = some v

theorem Sl.nil {lo hi : Nat} {w : World} {a : Option Addr} : Sl lo hi w a [] := fun j v h => by simp at h

theorem Sl.addr {lo hi : Nat} {w : World} {a : Option Addr} {l : List Value} (h : Sl lo hi w a l) (hl : 0 < l.length) : a = some ⟨sb a, so a, none⟩ :=
  (h 0 l[0] (by simp [hl])).1

theorem Sl.mono {lo hi lo' hi' : Nat} {w w' : World} {a : Option Addr} {l : List Value} (h : Sl lo hi w a l) (hlo : lo' ≤ lo) (hhi : hi ≤ hi')
    (hw : ∀ k, lo ≤ k → k < hi → w'.heap[k]? = w.heap[k]?) : Sl lo' hi' w' a l := fun j v hv => by
  obtain ⟨h1, h2, h3, h4⟩ := h j v hv
  exact ⟨h1, by omega, by omega, by rw [World.cell?_of_block (w := w) (hw _ h2 h3)]; exact h4⟩

theorem Sl.below {lo hi B : Nat} {w w' : World} {a : Option Addr} {l : List Value} (h : Sl lo hi w a l) (hb : Below B w w') (hB : hi ≤ B) : Sl lo hi w' a l :=
  h.mono (Nat.le_refl _) (Nat.le_refl _) (fun k _ hk => hb.block k (by omega))

/-- The fact as a chunk. -/
def sl (lo hi : Nat) (a : Option Addr) (l : List Value) : Chunk where
  fp := fun k => lo ≤ k ∧ k < hi
  φ := fun w => Sl lo hi w a l
  dep := fun _ _ h hw => hw.mono (Nat.le_refl _) (Nat.le_refl _) (fun k h1 h2 => h k ⟨h1, h2⟩)

section
variable {P : Program} {n : Nat} {w0 : World} {ρ : Env} {H : List Chunk} {g : Bool}

/-- A cell of old memory. -/
theorem cell_old {a : Option Addr} {l : List Value} {lo hi j : Nat} {v : Value} (hs : Sl lo hi w0 a l) (hj : l[j]? = some v) (hhi : hi ≤ w0.heap.size) (hh : Has H (old w0)) :
    ∀ w, Mem w0 H w → w.cell? ⟨sb a, so a + j, none⟩ = some v := fun w hm => by
  obtain ⟨_, _, h3, h4⟩ := hs j v hj
  rw [(hm.below hh).cell (p := ⟨sb a, so a + j, none⟩) (by show sb a < _; omega)]
  exact h4

theorem ev_index_addr' {x y : Operand} {t m c : Nat} {ad : Option Addr} {k : IntKind} {i : Int} (sz : Nat) (ha : g = true → ad = some ⟨sb ad, so ad, none⟩)
    (hx : Gets ρ g x (.slice ad m c) := by first | exact .plain rfl | exact .cond rfl id | exact .cond rfl gl) (hy : Gets ρ g y (.int k i) := by first | exact .plain rfl | exact .cond rfl id | exact .cond rfl gl)
    (hs : elemSize P t = some sz := by kernel_rfl) (hi : g = true → 0 ≤ i ∧ i < (m : Int) := by first | (intro _; omega) | (intro hg; simp at hg; omega)) :
    Ev P n w0 H ρ g (.indexAddr t x y) (.pointer (some ⟨sb ad, so ad + i.toNat * sz, none⟩)) := by
  intro w a dst ty pos aft gd hm ho hg
  have e1 := hx.eval ho hg
  rw [ha hg] at e1
  have hadm := ha hg
  have e2 := hy.eval ho hg
  have hb := hi hg
  unfold elemSize at hs
  split at hs
  · rename_i el hu
    cases hti : P.info? el with
    | none => rw [hti] at hs; cases hs
    | some ti =>
      rw [hti] at hs
      simp at hs
      subst hs
      show (Instr.indexAt t (a.eval x) (a.eval y) >>= fun v => pure (Next.value v)).run P w = _
      rw [e1, e2]
      refine run_value ?_
      unfold Instr.indexAt
      show (underlying t >>= _).run P w = _
      rw [run_bind_ok (run_under hu w)]
      show (underlying t >>= _).run P w = _
      rw [run_bind_ok (run_under hu w)]
      simp only [hb, and_self, if_true]
      rw [run_bind_ok (run_size hti w)]
      show Result.ok (Value.pointer (some (Addr.add ⟨sb ad, so ad, none⟩ (i.toNat * ti.size)))) w = _
      by_cases h0 : i.toNat * ti.size = 0
      · simp [Addr.add, h0]
      · simp only [Addr.add, h0, if_false]
  · cases hs

/-- A load of one cell, by a fact on every world. -/
theorem ev_load_at {x : Operand} {t : TypeId} {p : Addr} {v : Value} (hc : ∀ w, Mem w0 H w → w.cell? p = some v)
    (hx : Gets ρ g x (.pointer (some p)) := by first | exact .plain rfl | exact .cond rfl id | exact .cond rfl gl) (ht : oneT P t = true := by kernel_rfl) : Ev P n w0 H ρ g (.load t x) v :=
  ev_load_cell hx ht fun _ => hc

/-- A load of a struct, by facts on its cells. -/
theorem ev_load_cells {x : Operand} {t m b o : Nat} {l : List Value} (hc : ∀ w, Mem w0 H w → ∀ j v, l[j]? = some v → w.cell? ⟨b, o + j, none⟩ = some v)
    (hx : Gets ρ g x (.pointer (some ⟨b, o, none⟩)) := by first | exact .plain rfl | exact .cond rfl id | exact .cond rfl gl) (hl : l.length = m := by rfl) (ht : aggT P t = some m := by kernel_rfl) :
    Ev P n w0 H ρ g (.load t x) (.agg l.toArray) :=
  ev_load_agg hx ht hl fun _ w hm j v hv => by
    have := hc w hm j v hv
    by_cases h0 : j = 0
    · subst h0; exact this
    · simp only [Addr.add, h0, if_false]; exact this

/-! ### Strings -/

/-- The byte at a place, as Go's number. -/
def bt (s : ByteArray) (i : Nat) : Int := ((s.data.toList.getD i 0).toNat : Int)

theorem ev_index_string {x y : Operand} {t : TypeId} {s : ByteArray} {k : IntKind} {i : Int}
    (hx : Gets ρ g x (.string s) := by first | exact .plain rfl | exact .cond rfl id | exact .cond rfl gl) (hy : Gets ρ g y (.int k i) := by first | exact .plain rfl | exact .cond rfl id | exact .cond rfl gl)
    (ht : isStringT P t = true := by kernel_rfl) (hi : g = true → 0 ≤ i ∧ i < (s.size : Int) := by first | (intro _; omega) | (intro hg; simp at hg; omega)) :
    Ev P n w0 H ρ g (.index t x y) (.int .u8 (bt s i.toNat)) := by
  intro w a dst ty pos aft gd hm ho hg
  have e1 := hx.eval ho hg
  have e2 := hy.eval ho hg
  have hb := hi hg
  unfold isStringT at ht
  split at ht
  · rename_i hu
    show (Instr.index t (a.eval x) (a.eval y) >>= fun v => pure (Next.value v)).run P w = _
    rw [e1, e2]
    refine run_value ?_
    unfold Instr.index
    show (underlying t >>= _).run P w = _
    rw [run_bind_ok (run_under hu w)]
    have hlt : i.toNat < s.size := by omega
    have hget : s[i.toNat]? = some (s[i.toNat]'hlt) := by simp [hlt]
    simp only [hb.1, if_true, hget]
    show Result.ok (Value.int .u8 _) w = _
    have : bt s i.toNat = ((s[i.toNat]'hlt).toNat : Int) := by
      unfold bt
      rw [List.getD_eq_getElem?_getD, List.getElem?_eq_getElem (by simpa using hlt)]
      rfl
    rw [this]
  · cases ht

theorem toList_inj {s r : ByteArray} (h : s.toList = r.toList) : s = r := by
  rw [ByteArray.toList_eq, ByteArray.toList_eq] at h
  exact ByteArray.ext (Array.toList_inj.1 h)

theorem ev_str_eql {x y : Operand} {t u : TypeId} {s r : ByteArray}
    (hx : Gets ρ g x (.string s) := by first | exact .plain rfl | exact .cond rfl id | exact .cond rfl gl) (hy : Gets ρ g y (.string r) := by first | exact .plain rfl | exact .cond rfl id | exact .cond rfl gl) :
    Ev P n w0 H ρ g (.binOp .eql t x y u) (.bool (decide (s = r))) := by
  intro w a dst ty pos aft gd hm ho hg
  simp only [execOp, hx.eval ho hg, hy.eval ho hg]
  show Result.ok (Next.value (.bool (s.toList == r.toList))) w = _
  have : (s.toList == r.toList) = decide (s = r) := by
    by_cases e : s = r
    · simp [e]
    · have : s.toList ≠ r.toList := fun h => e (toList_inj h)
      simp [e, this]
  rw [this]

theorem str_beq {s r : ByteArray} : (s.toList == r.toList) = decide (s = r) := by
  by_cases e : s = r
  · simp [e]
  · have : s.toList ≠ r.toList := fun h => e (toList_inj h)
    simp [e, this]

theorem ev_str_neq {x y : Operand} {t u : TypeId} {s r : ByteArray} (hx : Gets ρ g x (.string s) := by first | exact .plain rfl | exact .cond rfl id | exact .cond rfl gl) (hy : Gets ρ g y (.string r) := by first | exact .plain rfl | exact .cond rfl id | exact .cond rfl gl) :
    Ev P n w0 H ρ g (.binOp .neq t x y u) (.bool (decide (s ≠ r))) := by
  intro w a dst ty pos aft gd hm ho hg
  simp only [execOp, hx.eval ho hg, hy.eval ho hg]
  show Result.ok (Next.value (.bool (!(s.toList == r.toList)))) w = _
  rw [str_beq]
  simp

theorem ev_bool_eql {x y : Operand} {t u : TypeId} {p q : Bool} (hx : Gets ρ g x (.bool p) := by first | exact .plain rfl | exact .cond rfl id | exact .cond rfl gl) (hy : Gets ρ g y (.bool q) := by first | exact .plain rfl | exact .cond rfl id | exact .cond rfl gl)
    (ht : P.underlying t = some .bool := by kernel_rfl) : Ev P n w0 H ρ g (.binOp .eql t x y u) (.bool (p == q)) := by
  intro w a dst ty pos aft gd hm ho hg
  simp only [execOp, hx.eval ho hg, hy.eval ho hg]
  refine run_value ?_
  show (Op.equal t (.bool p) (.bool q) >>= fun b => pure (Value.bool b)).run P w = _
  have : (Op.equal t (.bool p) (.bool q)).run P w = .ok (p == q) w := by
    unfold Op.equal Op.maxDepth Op.equalIn
    rw [run_bind_ok (run_under ht w)]
    rfl
  rw [run_bind_ok this]
  rfl

theorem ev_nilcheck {x : Operand} {p : Addr} (hx : Gets ρ g x (.pointer (some p)) := by first | exact .plain rfl | exact .cond rfl id | exact .cond rfl gl) : Ev P n w0 H ρ g (.nilCheck x) (.pointer (some p)) := by
  intro w a dst ty pos aft gd hm ho hg
  simp only [execOp, hx.eval ho hg]
  rfl

theorem ev_convert_int {x : Operand} {s d : TypeId} {k : IntKind} {p : Int} (k' : IntKind) (hx : Gets ρ g x (.int k p) := by first | exact .plain rfl | exact .cond rfl id | exact .cond rfl gl) (ht : P.underlying d = some (.int k') := by kernel_rfl) (hs : (P.underlying s).isSome = true := by kernel_rfl) :
    Ev P n w0 H ρ g (.convert s d x) (.int k' (k'.wrap p)) := by
  intro w a dst ty pos aft gd hm ho hg
  cases hu : P.underlying s with
  | none => rw [hu] at hs; cases hs
  | some ds =>
    show (convert s d (a.eval x) >>= fun v => pure (Next.value v)).run P w = _
    rw [hx.eval ho hg]
    refine run_value ?_
    unfold convert
    rw [run_bind_ok (run_under hu w), run_bind_ok (run_under ht w)]
    cases ds <;> rfl

/-! ### Calls under a guard, and calls that only compute -/

/-- The contract's form for a call that leaves old memory alone: it returns v. -/
def Ret (w : World) (v : Value) (e : Ending) (w' : World) : Prop := e = .returned v ∧ Below w.heap.size w w'

inductive GetsG (ρ : Env) (g : Bool) : List Operand → List Value → Prop
  | nil : GetsG ρ g [] []
  | cons {x : Operand} {v : Value} {xs : List Operand} {vs : List Value} : Gets ρ g x v → GetsG ρ g xs vs → GetsG ρ g (x :: xs) (v :: vs)

theorem GetsG.eval {xs : List Operand} {vs : List Value} {a : Act} (h : GetsG ρ g xs vs) (ho : Ok n ρ a) (hg : g = true) : xs.map a.eval = vs := by
  induction h with
  | nil => rfl
  | cons h _ ih => simp [h.eval ho hg, ih]

theorem run_call {f : Nat} {xs : List Operand} {vs : List Value} {ts : Array TypeId} {dst : Option Tmp} {ty : TypeId} {pos : String} {aft : Array Edge} {gd : Option (Nat × Bool)} {a : Act} {w : World}
    (e : xs.map a.eval = vs) (hf : callable P f = true) :
    (execOp a.eval ⟨dst, .call { callee := .value (.func f), args := xs.toArray, argTypes := ts }, ty, pos, aft, gd⟩).run P w = .ok (.enter f vs.toArray) w := by
  simp only [execOp, resolve, List.map_toArray, e]
  show (callFunc f ((#[] ++ vs.toArray) ++ #[])).run P w = _
  rw [Array.empty_append, Array.append_empty]
  exact run_callFunc hf

/-- A call that returns a value and leaves all that is known as it is. -/
theorem st_callv {C : Env → List Chunk → Prop} {f d : Nat} {xs : List Operand} {vs : List Value} {v : Value} {ts : Array TypeId} {ty : TypeId} {pos : String} {aft : Array Edge} {gd : Option (Nat × Bool)}
    (hc : ∀ w, Mem w0 H w → Calls P f vs.toArray w (Ret w v)) (k : C ((d, .v v) :: ρ) H)
    (ha : GetsG ρ true xs vs := by repeat (first | exact GetsG.nil | (apply GetsG.cons; first | exact .plain rfl | exact .cond rfl id | exact .cond rfl gl)))
    (hd : Nat.blt d n = true := by rfl) (hf : callable P f = true := by kernel_rfl) : StepO P n w0 ⟨some d, .call { callee := .value (.func f), args := xs.toArray, argTypes := ts }, ty, pos, aft, gd⟩ ρ H C := by
  intro K Q hs w a hm ho
  unfold Oper.wp
  rw [run_call (ha.eval ho rfl) hf]
  refine (hc w hm).mono ?_
  rintro e w' ⟨rfl, hb⟩
  exact hs _ _ k w' _ (hm.keep (.of_below hb)) (ho.put (by simpa [Nat.blt_eq] using hd) rfl)

theorem ow_callg {ops : Array Oper} {Q : Exit → Act → World → Prop} {rest : List Oper} {f d j : Nat} {want g : Bool} {xs : List Operand} {vs : List Value} {v : Value} {ts : Array TypeId} {ty : TypeId} {pos : String} {aft : Array Edge}
    (hg : gof ops ρ j want = some g) (hc : g = true → ∀ w, Mem w0 H w → Calls P f vs.toArray w (Ret w v)) (k : OW P n w0 ops Q rest ((d, .c g v) :: ρ) H)
    (ha : GetsG ρ g xs vs := by repeat (first | exact GetsG.nil | (apply GetsG.cons; first | exact .plain rfl | exact .cond rfl id | exact .cond rfl gl)))
    (hd : Nat.blt d n = true := by rfl) (hf : callable P f = true := by kernel_rfl) :
    OW P n w0 ops Q (⟨some d, .call { callee := .value (.func f), args := xs.toArray, argTypes := ts }, ty, pos, aft, some (j, want)⟩ :: rest) ρ H := by
  intro w a hm ho
  have hw := wanted_of (o := ⟨some d, .call { callee := .value (.func f), args := xs.toArray, argTypes := ts }, ty, pos, aft, some (j, want)⟩) ho hg rfl
  have hd' : d < n := by simpa [Nat.blt_eq] using hd
  refine wpList_step fun K hK => ?_
  rw [hw]
  cases g with
  | false => exact hK _ _ (k w _ hm (ho.put hd' rfl))
  | true =>
    show Oper.wp _ _ _ _ _ _
    unfold Oper.wp
    rw [run_call (ha.eval ho rfl) hf]
    refine (hc rfl w hm).mono ?_
    rintro e w' ⟨rfl, hb⟩
    exact hK _ _ (k w' _ (hm.keep (.of_below hb)) (ho.put hd' rfl))

/-! ### Rows of the call's own -/

/-- A slice value of the call's own: nil, or at the head of a block of its own; its cells are xs. -/
def row (e sz : Nat) (a : Option Addr) (m cap : Nat) (xs : List Value) : Chunk where
  fp := fun k => ∃ p, a = some p ∧ k = p.block
  φ := fun w => w.ownsRow 0 e sz (.slice a m cap) m xs
  dep := fun w w' h hw => by
    refine ⟨hw.1, ?_⟩
    rcases hw.2 with h2 | ⟨gb, cap', cur, hv, hb, hh, r⟩
    · exact .inl h2
    · refine .inr ⟨gb, cap', cur, hv, hb, ?_, r⟩
      simp only [Value.slice.injEq] at hv
      rw [h gb ⟨_, hv.1, rfl⟩]
      exact hh

theorem Mem.row_nil {w : World} (hm : Mem w0 H w) (e sz : Nat) : Mem w0 (row e sz none 0 0 [] :: H) w := by
  refine hm.add (Frame.refl _ w) (World.ownsRow_nil w 0 e sz) ?_
  rintro k ⟨p, hp, _⟩
  cases hp

def rowInfo (P : Program) (t e sz by_ : Nat) : Bool :=
  (match P.underlying t with | some (.slice e') => e' == e | _ => false) &&
  match P.info? e with
  | some i => i.size == sz && i.bytes == by_ && (match i.zero with | some z => z.cells.size == sz | none => false) && decide (0 < sz)
  | none => false

theorem rowInfo_spec {t e sz by_ : Nat} (h : rowInfo P t e sz by_ = true) : P.underlying t = some (.slice e) ∧ ∃ i z, P.info? e = some i ∧ i.size = sz ∧ i.bytes = by_ ∧ i.zero = some z ∧ z.cells.size = sz ∧ 0 < sz := by
  unfold rowInfo at h
  simp only [Bool.and_eq_true] at h
  obtain ⟨h1, h2⟩ := h
  constructor
  · split at h1
    · rename_i e' hu; rw [hu]; simp at h1; rw [h1]
    · cases h1
  · split at h2
    · rename_i i hi
      simp only [Bool.and_eq_true, beq_iff_eq, decide_eq_true_eq] at h2
      obtain ⟨⟨⟨h3, h4⟩, h5⟩, h6⟩ := h2
      split at h5
      · rename_i z hz; exact ⟨i, z, hi, h3, h4, hz, by simpa using h5, h6⟩
      · cases h5
    · cases h2

theorem append_block {w : World} (t ty e : TypeId) (i : TypeInfo) (z : Value) (ht : P.underlying t = some (.slice e)) (hi : P.info? e = some i) (hz : i.zero = some z)
    (v : Value) (m : Nat) (xs : List Value) (hown : w.ownsRow 0 e i.size v m xs) (a : Addr) (mm c : Nat) (news : List Value) (hl : news.length = mm * i.size) (hnews : ∀ j u, news[j]? = some u → w.cell? (a.add j) = some u)
    (h1 : ∀ u ∈ news, u.oneCell' = true) (h63 : m + mm ≤ 9223372036854775807) (hbytes : (m + mm) * i.bytes ≤ 140737488355328) {v' : Value} {w' : World}
    (h : (Builtin.append_ #[t, t] ty #[v, .slice (some a) mm c]).run P w = .ok v' w') : v'.ownBlock = v.ownBlock ∨ v'.ownBlock = some w.heap.size := by
  rcases hown.2 with ⟨rfl, rfl⟩ | ⟨gb, cap, cur, rfl, hbg, hg, hnc, hcm, hcs, htake⟩
  · by_cases hm : mm = 0
    · subst hm
      have hn : news = [] := List.eq_nil_of_length_eq_zero (by simpa using hl)
      subst hn
      simp [Builtin.append_, run_underlying ht, sizeOf, typeInfo, hi, Builtin.lenOf, Builtin.firstCells, loadCells, loadCellsFrom] at h
      left; rw [← h.1]
    · have hr := run_append_nil (P := P) w t ty e i z ht hi hz a mm c news hl hnews (by omega) (by omega) (by have hb := hbytes; simp only [Nat.zero_add] at hb; omega)
      rw [hr] at h
      simp only [Result.ok.injEq] at h
      right; rw [← h.1]; rfl
  · by_cases hroom : m + mm ≤ cap
    · have hfit : m * i.size + news.length ≤ cur.size := by rw [hl, hcs, ← Nat.add_mul]; exact Nat.mul_le_mul_right _ hroom
      have hr := run_append_room (P := P) w t ty e i ht hi gb m cap cur hg a mm c news hl hnews h1 hroom hfit
      rw [hr] at h
      simp only [Result.ok.injEq] at h
      left; rw [← h.1]; rfl
    · have holds : ∀ j u, xs[j]? = some u → w.cell? ((⟨gb, 0, none⟩ : Addr).add j) = some u := hown.cells (g := gb) rfl
      have hr := run_append_grow (P := P) w t ty e i z ht hi hz ⟨gb, 0, none⟩ m cap xs hown.1 holds a mm c news hl hnews (by omega) (by omega) (growslice_fits (by omega) hbytes)
      rw [hr] at h
      simp only [Result.ok.injEq] at h
      right; rw [← h.1]; rfl

/-- append(s, new...) onto a row of the call's own. -/
theorem st_append_row {C : Env → List Chunk → Prop} {x y : Operand} {t e sz m mm cc d cap : Nat} {ty : TypeId} {pos : String} {aft : Array Edge} {gd : Option (Nat × Bool)} {a : Option Addr} {p : Addr} {xs news : List Value} {H' : Option Addr → Nat → List Chunk}
    (by_ : Nat) (hnews : ∀ w, Mem w0 H w → ∀ j u, news[j]? = some u → w.cell? (p.add j) = some u) (hl : news.length = mm * sz) (h1 : ∀ u ∈ news, u.oneCell' = true)
    (hb : (m + mm) * by_ ≤ 140737488355328) (hm63 : m + mm ≤ 140737488355328)
    (hu : ∀ a' cap', Upd H (row e sz a m cap xs) (row e sz a' (m + mm) cap' (xs ++ news)) (H' a' cap'))
    (k : ∀ a' cap', C ((d, .v (.slice a' (m + mm) cap')) :: ρ) (H' a' cap'))
    (hx : Gets ρ true x (.slice a m cap) := by first | exact .plain rfl | exact .cond rfl id | exact .cond rfl gl) (hy : Gets ρ true y (.slice (some p) mm cc) := by first | exact .plain rfl | exact .cond rfl id | exact .cond rfl gl)
    (hd : Nat.blt d n = true := by rfl) (hi : rowInfo P t e sz by_ = true := by kernel_rfl) :
    StepO P n w0 ⟨some d, .call { callee := .builtin .append, args := #[x, y], argTypes := #[t, t] }, ty, pos, aft, gd⟩ ρ H C := by
  intro K Q hs w act hm ho
  obtain ⟨hut, i, z, hi', hsz, hby, hz, hzs, hpos⟩ := rowInfo_spec hi
  have hown : w.ownsRow 0 e sz (.slice a m cap) m xs := (hu none 0).has.φ hm
  obtain ⟨cs, hcs⟩ := exec_builtin2 act.eval .append x y #[t, t] (some d) ty pos aft gd
  obtain ⟨v', w', hr, ho2, hg, _⟩ := run_append_own (P := P) w 0 t ty e i z sz by_ hut hi' hz hsz hby hzs hpos _ m xs hown p mm cc news hl (hnews w hm) h1 (by simp only [maxLen]; omega) hb (Nat.zero_le _)
  have hv : ∃ a' cap', v' = .slice a' (m + mm) cap' := by
    rcases ho2.2 with ⟨rfl, h0⟩ | ⟨gb, cap', cur, rfl, _⟩
    · exact ⟨none, 0, by rw [h0]⟩
    · exact ⟨_, _, rfl⟩
  obtain ⟨a', cap', rfl⟩ := hv
  unfold Oper.wp
  rw [hcs, hx.eval ho rfl, hy.eval ho rfl]
  have hrun : (builtin .append #[t, t] ty cs #[.slice a m cap, .slice (some p) mm cc]).run P w = .ok (.value (.slice a' (m + mm) cap')) w' := run_value hr
  rw [hrun]
  refine hs _ _ (k a' cap') w' _ (hm.upd (hu a' cap') ⟨hg.os, hg.tape, hg.output, hg.size, fun kk hk hn => hg.block kk hk ?_⟩ ho2 ?_) (ho.put (by simpa [Nat.blt_eq] using hd) rfl)
  · intro he
    cases a with
    | none => cases he
    | some q => exact hn ⟨q, rfl, by simpa [Value.ownBlock] using he⟩
  · rintro kk ⟨q, hq, rfl⟩
    subst hq
    have hlt := ho2.lt q.block rfl
    refine ⟨?_, hlt.2⟩
    subst hsz
    subst hby
    rcases append_block t ty e i z hut hi' hz _ m xs hown p mm cc news hl (hnews w hm) h1 (by omega) hb hr with hq | hq
    · left
      cases a with
      | none => cases hq
      | some q' => exact ⟨q', rfl, by simpa [Value.ownBlock] using hq⟩
    · right
      simp [Value.ownBlock] at hq
      omega

/-- append(s, x, ..): the new cells lie in a block of the call's own. -/
theorem st_append_own {C : Env → List Chunk → Prop} {x y : Operand} {t e sz m mm cc d cap b e2 : Nat} {ty : TypeId} {pos : String} {aft : Array Edge} {gd : Option (Nat × Bool)} {a : Option Addr} {xs news : List Value} {H' : Option Addr → Nat → List Chunk}
    (by_ : Nat)
    (hx : Gets ρ true x (.slice a m cap) := by first | exact .plain rfl | exact .cond rfl id | exact .cond rfl gl) (hy : Gets ρ true y (.slice (some ⟨b, 0, none⟩) mm cc) := by first | exact .plain rfl | exact .cond rfl id | exact .cond rfl gl)
    (hh : Has H (own b e2 news) := by repeat (first | exact Has.head | apply Has.tail))
    (hu : ∀ a' cap', Upd H (row e sz a m cap xs) (row e sz a' (m + mm) cap' (xs ++ news)) (H' a' cap') := by intro a' cap'; repeat (first | exact Upd.head | apply Upd.tail))
    (hl : news.length = mm * sz := by rfl) (h1 : news.all Value.oneCell' = true := by rfl)
    (hb : (m + mm) * by_ ≤ 140737488355328 := by omega) (hm63 : m + mm ≤ 140737488355328 := by omega)
    (hd : Nat.blt d n = true := by rfl) (hi : rowInfo P t e sz by_ = true := by kernel_rfl)
    (k : ∀ a' cap', C ((d, .v (.slice a' (m + mm) cap')) :: ρ) (H' a' cap')) :
    StepO P n w0 ⟨some d, .call { callee := .builtin .append, args := #[x, y], argTypes := #[t, t] }, ty, pos, aft, gd⟩ ρ H C :=
  st_append_row by_ (fun w hm j u hu => by
    have := own_cell (hh.φ hm) hu
    by_cases h0 : j = 0
    · subst h0; exact this
    · simp only [Addr.add, h0, if_false, Nat.zero_add]; exact this) hl (List.all_eq_true.1 h1) hb hm63 hu k hx hy hd hi
end
end Go.Eng

namespace Go.Eng
open Go.RowKit

section
variable {P : Program} {n : Nat} {w0 : World} {ρ : Env} {H : List Chunk} {g : Bool} {C : Env → List Chunk → Prop}

/-! ### Pure facts out of what memory is known -/

theorem ow_have {ops : Array Oper} {Q : Exit → Act → World → Prop} {l : List Oper} {p : Prop} (h : ∀ w, Mem w0 H w → p) (k : p → OW P n w0 ops Q l ρ H) : OW P n w0 ops Q l ρ H :=
  fun w a hm ho => k (h w hm) w a hm ho
/-- The list of chunks may be changed for one that follows from it. -/
theorem cw_imp {c : Code} {Q : Exit → Act → World → Prop} {H' : List Chunk} (h : ∀ w, Mem w0 H w → Mem w0 H' w) (k : CW P n w0 c Q ρ H') : CW P n w0 c Q ρ H :=
  fun w a hm ho => k w a (h w hm) ho
theorem ow_imp {ops : Array Oper} {Q : Exit → Act → World → Prop} {l : List Oper} {H' : List Chunk} (h : ∀ w, Mem w0 H w → Mem w0 H' w) (k : OW P n w0 ops Q l ρ H') : OW P n w0 ops Q l ρ H :=
  fun w a hm ho => k w a (h w hm) ho

/-- Where the ways through x meet again: what is known there is env g and mem g, under R g. -/
theorem cw_cut {γ : Type} {x y : Code} {Q : Exit → Act → World → Prop} (env : γ → Env) (mem : γ → List Chunk) (R : γ → Prop)
    (hx : ∀ K : Act → World → Prop, (∀ g' ρ' H', R g' → SubL (env g') ρ' → (∀ w, Mem w0 H' w → Mem w0 (mem g') w) → KW n w0 K ρ' H') → CW P n w0 x (Exit.then K Q) ρ H)
    (hy : ∀ g, R g → CW P n w0 y Q (env g) (mem g)) : CW P n w0 (.seq x y) Q ρ H :=
  cw_seq fun K hK => hx K fun g' _ _ hR hs hH => fun w a hm ho => hK _ _ (hy g' hR) w a (hH w hm) (ho.sub hs.sub)

/-! ### Building structs -/

inductive GetsP (ρ : Env) (g : Bool) : List (Nat × Operand) → List (Nat × Value) → Prop
  | nil : GetsP ρ g [] []
  | cons {i : Nat} {x : Operand} {v : Value} {xs : List (Nat × Operand)} {vs : List (Nat × Value)} : Gets ρ g x v → GetsP ρ g xs vs → GetsP ρ g ((i, x) :: xs) ((i, v) :: vs)

theorem GetsP.eval {xs : List (Nat × Operand)} {vs : List (Nat × Value)} {a : Act} (h : GetsP ρ g xs vs) (ho : Ok n ρ a) (hg : g = true) : xs.map (fun p => (p.1, a.eval p.2)) = vs := by
  induction h with
  | nil => rfl
  | cons h _ ih => simp [h.eval ho hg, ih]

/-- A struct value; l: its cells. -/
theorem ev_build {t : TypeId} {parts : List (Nat × Operand)} {vs : List (Nat × Value)} (l : List Value)
    (hv : GetsP ρ g parts vs := by repeat (first | exact GetsP.nil | (apply GetsP.cons; first | exact .plain rfl | exact .cond rfl id | exact .cond rfl gl)))
    (hb : ∀ w, (Instr.build t vs.toArray).run P w = .ok (.agg l.toArray) w := by intro w; kernel_rfl) : Ev P n w0 H ρ g (.build t parts.toArray) (.agg l.toArray) :=
  ev_build_of (fun hg _ ho => hv.eval ho hg) hb

theorem ev_build2 {t : TypeId} {x0 x1 : Operand} {v0 v1 : Value}
    (h0 : Gets ρ g x0 v0 := by first | exact .plain rfl | exact .cond rfl id | exact .cond rfl gl) (h1 : Gets ρ g x1 v1 := by first | exact .plain rfl | exact .cond rfl id | exact .cond rfl gl)
    (hb : ∀ w, (Instr.build t #[(0, v0), (1, v1)]).run P w = .ok (.agg #[v0, v1]) w := by intro w; kernel_rfl) : Ev P n w0 H ρ g (.build t #[(0, x0), (1, x1)]) (.agg #[v0, v1]) :=
  ev_build_of (parts := [(0, x0), (1, x1)]) (l := [v0, v1]) (fun hg _ ho => (GetsP.cons h0 (.cons h1 .nil)).eval ho hg) hb

/-! ### Slice literals -/

theorem st_buildSlice {t d len : Nat} {parts : List (Nat × Operand)} {vs : List (Nat × Value)} {ty : TypeId} {pos : String} {aft : Array Edge} {gd : Option (Nat × Bool)} (e : Nat) (l : List Value)
    (k : ∀ b, C ((d, .v (.slice (some ⟨b, 0, none⟩) len len)) :: ρ) (own b e l :: H))
    (hv : GetsP ρ true parts vs := by repeat (first | exact GetsP.nil | (apply GetsP.cons; first | exact .plain rfl | exact .cond rfl id | exact .cond rfl gl)))
    (hb : ∀ w, (Instr.buildSlice t len vs.toArray).run P w = .ok (.slice (some ⟨w.heap.size, 0, none⟩) len len) (w.alloc (.cells l.toArray e)) := by intro w; kernel_rfl)
    (hd : Nat.blt d n = true := by rfl) : StepO P n w0 ⟨some d, .buildSlice t len parts.toArray, ty, pos, aft, gd⟩ ρ H C := by
  intro K Q hs w a hm ho
  have e' := hv.eval ho rfl
  have hr : (execOp a.eval ⟨some d, .buildSlice t len parts.toArray, ty, pos, aft, gd⟩).run P w = .ok (.value (.slice (some ⟨w.heap.size, 0, none⟩) len len)) (w.alloc (.cells l.toArray e)) := by
    show (Instr.buildSlice t len (parts.toArray.map fun (i, x) => (i, a.eval x)) >>= fun v => pure (Next.value v)).run P w = _
    refine run_value ?_
    have : (parts.toArray.map fun (i, x) => (i, a.eval x)) = vs.toArray := by rw [← e']; simp
    rw [this]
    exact hb w
  unfold Oper.wp
  rw [hr]
  exact hs _ _ (k w.heap.size) _ _ (hm.alloc l e) (ho.put (by simpa [Nat.blt_eq] using hd) rfl)

/-! ### make -/

theorem st_makeSlice {x y : Operand} {t d m e : Nat} {ty : TypeId} {pos : String} {aft : Array Edge} {gd : Option (Nat × Bool)} {k1 k2 : IntKind} {z : Value} (by_ : Nat)
    (k : ∀ a, a = some ⟨sb a, 0, none⟩ → C ((d, .v (.slice a m m)) :: ρ) (row e 1 a m m (List.replicate m z) :: H))
    (hb : by_ * m ≤ 140737488355328) (hm' : m ≤ 140737488355328) {p q : Int}
    (hx : Gets ρ true x (.int k1 p) := by first | exact .plain rfl | exact .cond rfl id | exact .cond rfl gl) (hy : Gets ρ true y (.int k2 q) := by first | exact .plain rfl | exact .cond rfl id | exact .cond rfl gl) (hp : p = (m : Int) := by omega) (hq : q = (m : Int) := by omega)
    (hi : rowInfo P t e 1 by_ = true := by kernel_rfl) (hz : zeroT P e = some [z] := by kernel_rfl)
    (hd : Nat.blt d n = true := by rfl) : StepO P n w0 ⟨some d, .makeSlice t x y, ty, pos, aft, gd⟩ ρ H C := by
  intro K Q hs w a hm ho
  obtain ⟨hut, i, z', hi', hsz, hby, hzz, hzs, hpos⟩ := rowInfo_spec hi
  have hz' : z'.cells = #[z] := by
    unfold zeroT at hz
    rw [hi'] at hz
    simp [hzz] at hz
    exact Array.toList_inj.1 hz
  obtain ⟨w', hr, hown, hgr⟩ := run_make_full (P := P) w 0 t e i z' 1 hut hi' hzz hsz k1 k2 m (by rw [hby]; omega) (by simp only [maxLen]; omega) (Nat.zero_le _)
  rw [hz', Nat.mul_one, toList_madeCells_one] at hown
  have hrun : (execOp a.eval ⟨some d, .makeSlice t x y, ty, pos, aft, gd⟩).run P w = .ok (.value (.slice (some ⟨w.heap.size, 0, none⟩) m m)) w' := by
    show (Instr.makeSlice t (a.eval x) (a.eval y) >>= fun v => pure (Next.value v)).run P w = _
    rw [hx.eval ho rfl, hy.eval ho rfl, hp, hq]
    exact run_value hr
  unfold Oper.wp
  rw [hrun]
  refine hs _ _ (k (some ⟨w.heap.size, 0, none⟩) rfl) w' _ (hm.add ⟨hgr.os, hgr.tape, hgr.output, hgr.size, fun kk hk _ => hgr.block kk hk (by simp)⟩ hown ?_) (ho.put (by simpa [Nat.blt_eq] using hd) rfl)
  rintro kk ⟨p, hp, rfl⟩
  cases hp
  exact ⟨Nat.le_refl _, (hown.lt _ rfl).2⟩

/-! ### Rows: cells -/

theorem row_addr {w : World} {e sz m cap : Nat} {a : Option Addr} {xs : List Value} (h : (row e sz a m cap xs).φ w) (hm : 0 < m) : a = some ⟨sb a, so a, none⟩ ∧ so a = 0 := by
  rcases h.2 with ⟨_, h0⟩ | ⟨gb, cap', cur, hv, _⟩
  · omega
  · simp only [Value.slice.injEq] at hv
    rw [hv.1]
    exact ⟨rfl, rfl⟩

theorem row_len {w : World} {e sz m cap : Nat} {a : Option Addr} {xs : List Value} (h : (row e sz a m cap xs).φ w) : xs.length = m * sz := h.1

theorem row_cell {w : World} {e sz m cap j : Nat} {a : Option Addr} {xs : List Value} {v : Value} (h : (row e sz a m cap xs).φ w) (hj : xs[j]? = some v) : w.cell? ⟨sb a, so a + j, none⟩ = some v := by
  have hlt : j < xs.length := (List.getElem?_eq_some_iff.1 hj).1
  rcases h.2 with ⟨_, h0⟩ | ⟨gb, cap', cur, hv, hb, hh, h1, h2, h3, h4⟩
  · rw [h.1, h0] at hlt; omega
  · simp only [Value.slice.injEq] at hv
    obtain ⟨hva, _, _⟩ := hv
    subst hva
    show w.cell? ⟨gb, 0 + j, none⟩ = some v
    have hc : cur[j]? = some v := by
      rw [← h4] at hj
      rw [List.getElem?_take] at hj
      split at hj
      · simpa using hj
      · cases hj
    simp [World.cell?, hh, hc]

theorem cell_row {e sz m cap j : Nat} {a : Option Addr} {xs : List Value} {v : Value} (hj : xs[j]? = some v) (hh : Has H (row e sz a m cap xs)) :
    ∀ w, Mem w0 H w → w.cell? ⟨sb a, so a + j, none⟩ = some v := fun _ hm => row_cell (hh.φ hm) hj

/-- One cell of a row of the call's own is written. -/
theorem st_store_row {x y : Operand} {t e sz m cap j : Nat} {ty : TypeId} {pos : String} {aft : Array Edge} {gd : Option (Nat × Bool)} {a : Option Addr} {xs : List Value} {v : Value} {H' : List Chunk}
    (hu : Upd H (row e sz a m cap xs) (row e sz a m cap (xs.set j v)) H') (hj : j < xs.length) (h1 : v.oneCell' = true)
    (hx : Gets ρ true x (.pointer (some ⟨sb a, so a + j, none⟩))) (hy : Gets ρ true y v)
    (k : C ρ H') (ht : P.cellsOf t = 1 := by kernel_rfl) (hti : (P.info? t).isSome = true := by kernel_rfl) : StepO P n w0 ⟨none, .store t x y, ty, pos, aft, gd⟩ ρ H C := by
  intro K Q hs w act hm ho
  have hφ := hu.has.φ hm
  have hc : ∃ u, w.cell? ⟨sb a, so a + j, none⟩ = some u := ⟨xs[j], row_cell hφ (by simp [hj])⟩
  have hpos : 0 < m := by
    rcases Nat.eq_zero_or_pos m with h | h
    · have := row_len hφ; rw [h] at this; omega
    · exact h
  have ha := (row_addr hφ hpos)
  rcases hφ.2 with ⟨_, h0⟩ | ⟨gb, cap', cur, hv, hb, hh, h3, h4, h5, h6⟩
  · omega
  · simp only [Value.slice.injEq] at hv
    obtain ⟨hva, _, hvc⟩ := hv
    subst hva
    subst hvc
    obtain ⟨u, hu'⟩ := hc
    have hadd : (⟨sb (some (⟨gb, 0, none⟩ : Addr)), so (some (⟨gb, 0, none⟩ : Addr)) + j, none⟩ : Addr) = ⟨gb, j, none⟩ := by simp [sb, so]
    rw [hadd] at hu' hx
    have hfz : w.frozen? ⟨gb, j, none⟩ = false := by simp [World.frozen?, hh]
    cases hi : P.info? t with
    | none => rw [hi] at hti; cases hti
    | some i =>
      have hsz : i.size = 1 := by simpa [Program.cellsOf, hi] using ht
      have hcells : v.cells = #[v] := by cases v <;> first | rfl | simp [Value.oneCell'] at h1
      have hst : (storeCells ⟨gb, j, none⟩ [v] 0).run P w = .ok () (w.setCell ⟨gb, j, none⟩ v) := by
        show (store (Addr.add ⟨gb, j, none⟩ 0) v >>= fun _ => storeCells ⟨gb, j, none⟩ [] 1).run P w = _
        have hst1 : (store (Addr.add ⟨gb, j, none⟩ 0) v).run P w = .ok () (w.setCell ⟨gb, j, none⟩ v) := by
          simp only [Addr.add, if_true]
          cases v <;> first
            | (simp [Value.oneCell'] at h1; done)
            | (simp only [store, Sem.run, hu', hfz]; rfl)
        rw [run_bind_ok hst1]
        rfl
      have hrun : (execOp act.eval ⟨none, .store t x y, ty, pos, aft, gd⟩).run P w = .ok .skip (w.setCell ⟨gb, j, none⟩ v) := by
        show ((Instr.storeAt t (act.eval x) (act.eval y)) >>= fun _ => pure Next.skip).run P w = _
        rw [hx.eval ho rfl, hy.eval ho rfl]
        have : (Instr.storeAt t (.pointer (some ⟨gb, j, none⟩)) v).run P w = .ok () (w.setCell ⟨gb, j, none⟩ v) := by
          show (storeVar t ⟨gb, j, none⟩ v).run P w = _
          unfold storeVar
          rw [run_bind_ok (run_size hi w), hcells]
          have hsz2 : ¬ ((#[v] : Array Value).size ≠ i.size) := by simp [hsz]
          simp only [hsz2, if_false]
          exact hst
        rw [run_bind_ok this]
        rfl
      unfold Oper.wp
      rw [hrun]
      refine hs _ _ k _ _ (hm.upd hu ⟨rfl, rfl, rfl, by simp [World.setCell], fun kk _ hn => Below.heap_setCell _ _ _ _ (fun e => hn ⟨_, rfl, e⟩)⟩ ?_ ?_) ho
      · refine ⟨by rw [List.length_set]; exact hφ.1, .inr ⟨gb, cap, cur.setIfInBounds j v, rfl, Nat.zero_le _, ?_, h3, h4, by simp [h5], ?_⟩⟩
        · show (w.setCell ⟨gb, j, none⟩ v).heap[gb]? = _
          simp [World.setCell, Array.getElem?_modify, hh]
        · rw [← h6]
          simp [List.take_set]
      · rintro kk ⟨p, hp, rfl⟩
        cases hp
        exact ⟨.inl ⟨_, rfl, rfl⟩, by
          have := hu.has.lt hm (k := gb) ⟨_, rfl, rfl⟩
          simpa [World.setCell] using this⟩

/-! ### Structs of two integers -/

def twoInts (P : Program) (t : TypeId) : Bool :=
  (match P.underlying t with
   | some (.struct fs) => match fs.toList with
     | [f0, f1] => (f0.name != "_") && (f1.name != "_") && f0.offset == 0 && f1.offset == 1 && (P.underlying f0.type matches some (.int .i64)) && (P.underlying f1.type matches some (.int .i64))
     | _ => false
   | _ => false) && !P.stoodInHeld t && !P.eqGuardType P.depth t

theorem run_part_int {t : TypeId} {k : IntKind} {cs : Array Value} {o : Nat} {v : Value} {w : World} (hu : P.underlying t = some (.int k)) (hv : cs[o]? = some v) : (part t cs o).run P w = .ok v w := by
  have ha : (isAgg t).run P w = .ok false w := run_isAgg_false (by simp [oneT, hu]) w
  unfold part
  rw [run_bind_ok ha]
  simp [hv, go_sem]

theorem run_equal2 {t : TypeId} {a b c d : Int} {w : World} (ht : twoInts P t = true) :
    (Op.equalIn 10000 t (.agg #[.int .i64 a, .int .i64 b]) (.agg #[.int .i64 c, .int .i64 d])).run P w = .ok (decide (a = c ∧ b = d)) w ∧ P.eqGuardType P.depth t = false := by
  unfold twoInts at ht
  simp only [Bool.and_eq_true, Bool.not_eq_true'] at ht
  obtain ⟨⟨h1, h2⟩, h3⟩ := ht
  refine ⟨?_, h3⟩
  cases hu : P.underlying t with
  | none => rw [hu] at h1; cases h1
  | some ds =>
    rw [hu] at h1
    cases ds with
    | struct fs =>
      have hfs : P.fieldsOf t = fs := by simp [Program.fieldsOf, hu]
      rw [run_equalIn_struct w 9999 t _ _ (by rw [hfs]; exact hu) h2, hfs]
      obtain ⟨fl⟩ := fs
      simp only at h1
      match fl, h1 with
      | [f0, f1], h1 =>
        simp only [Bool.and_eq_true, bne_iff_ne, ne_eq, beq_iff_eq] at h1
        obtain ⟨⟨⟨⟨⟨g1, g2⟩, g3⟩, g4⟩, g5⟩, g6⟩ := h1
        have u0 : P.underlying f0.type = some (.int .i64) := by revert g5; cases P.underlying f0.type with | none => simp | some d => cases d with | int k => cases k <;> simp | _ => simp
        have u1 : P.underlying f1.type = some (.int .i64) := by revert g6; cases P.underlying f1.type with | none => simp | some d => cases d with | int k => cases k <;> simp | _ => simp
        have p0 := fun (x y : Int) => run_part_int (w := w) (cs := #[.int .i64 x, .int .i64 y]) (o := 0) (v := .int .i64 x) u0 rfl
        have p1 := fun (x y : Int) => run_part_int (w := w) (cs := #[.int .i64 x, .int .i64 y]) (o := 1) (v := .int .i64 y) u1 rfl
        simp only [Op.eqFields, ne_eq, g1, g2, g3, g4, not_false_eq_true, if_true]
        rw [run_bind_ok (p0 a b), run_bind_ok (p0 c d), run_bind_ok (run_equalIn_int w 9998 f0.type .i64 .i64 a c u0)]
        by_cases e1 : a = c
        · simp only [e1, beq_self_eq_true, Bool.not_true, Bool.false_eq_true, if_false, true_and]
          rw [run_bind_ok (p1 c b), run_bind_ok (p1 c d), run_bind_ok (run_equalIn_int w 9998 f1.type .i64 .i64 b d u1)]
          by_cases e2 : b = d
          · simp [e2, go_sem]
          · simp [e2, go_sem]
        · simp [e1, go_sem]
    | _ => cases h1

theorem ev_struct_eql {x y : Operand} {t u : TypeId} {a b c d : Int}
    (hx : Gets ρ g x (.agg #[.int .i64 a, .int .i64 b]) := by first | exact .plain rfl | exact .cond rfl id | exact .cond rfl gl) (hy : Gets ρ g y (.agg #[.int .i64 c, .int .i64 d]) := by first | exact .plain rfl | exact .cond rfl id | exact .cond rfl gl)
    (ht : twoInts P t = true := by kernel_rfl) : Ev P n w0 H ρ g (.binOp .eql t x y u) (.bool (decide (a = c ∧ b = d))) := by
  intro w act dst ty pos aft gd hm ho hg
  obtain ⟨h1, h2⟩ := run_equal2 (a := a) (b := b) (c := c) (d := d) (w := w) ht
  simp only [execOp, hx.eval ho hg, hy.eval ho hg]
  refine run_value ?_
  rw [run_bind_ok (run_eqGuard_agg (P := P) w .eql t x y _ _ h2), run_eql_struct, h1]
  rfl
end
end Go.Eng

namespace Go.Eng
open Go.RowKit

/-- A map from strings to true: the set of the strings S. -/
def kset (b : Nat) (S : List ByteArray) : Chunk where
  fp := fun k => k = b
  φ := fun w => ∃ es clock, w.heap[b]? = some (.map es clock) ∧ es.toList.map (fun e => (e.key, e.val)) = S.map (fun s => (Value.string s, Value.bool true))
  dep := fun w w' h hw => by rw [h b rfl]; exact hw

theorem bytes_beq {s r : ByteArray} : (s == r) = decide (s = r) := by
  rw [beq_toListBytes, str_beq]

instance memDec (s : ByteArray) (S : List ByteArray) : Decidable (s ∈ S) := decidable_of_iff (S.any (fun r => decide (s = r)) = true) (by simp)

theorem findNow_set (s : ByteArray) : ∀ (S : List ByteArray) (es : List MapEntry) (i : Nat), es.map (fun e => (e.key, e.val)) = S.map (fun s => (Value.string s, Value.bool true)) →
    (s ∈ S → ∃ j, Instr.findNow .string (.string s) es i = some (some (j, .bool true))) ∧ (s ∉ S → Instr.findNow .string (.string s) es i = some none)
  | [], es, i, h => by
    have : es = [] := by simpa using h
    subst this
    exact ⟨fun h => by simp at h, fun _ => rfl⟩
  | r :: S, [], i, h => by simp at h
  | r :: S, e :: es, i, h => by
    simp only [List.map_cons, List.cons.injEq, Prod.mk.injEq] at h
    obtain ⟨⟨h1, h2⟩, h3⟩ := h
    have ih := findNow_set s S es (i + 1) h3
    have hs : Instr.sameNow .string (.string s) e.key = some (decide (s = r)) := by
      rw [h1]
      show some (s == r) = _
      rw [bytes_beq]
    by_cases hr : s = r
    · constructor
      · intro _
        refine ⟨i, ?_⟩
        simp only [Instr.findNow, hs, decide_eq_true hr, h2]
      · intro hn
        exact absurd (by simp [hr]) hn
    · constructor
      · intro hm
        rcases List.mem_cons.1 hm with h | h
        · exact absurd h hr
        · obtain ⟨j, hj⟩ := ih.1 h
          exact ⟨j, by simp [Instr.findNow, hs, hr, hj]⟩
      · intro hn
        simp [Instr.findNow, hs, hr, ih.2 (fun h => hn (List.mem_cons_of_mem _ h))]

section
variable {P : Program} {n : Nat} {w0 : World} {ρ : Env} {H : List Chunk} {g : Bool} {C : Env → List Chunk → Prop}

def setT (P : Program) (t : TypeId) : Bool :=
  match P.underlying t with
  | some (.map k e) => (P.underlying k matches some .string) && (match P.info? e with | some i => (match i.zero with | some (.bool false) => true | _ => false) | none => false)
  | _ => false

theorem setT_spec {t : TypeId} (h : setT P t = true) : ∃ k e i, P.underlying t = some (.map k e) ∧ P.underlying k = some .string ∧ P.info? e = some i ∧ i.zero = some (.bool false) := by
  unfold setT at h
  split at h
  · rename_i k e hu
    simp only [Bool.and_eq_true] at h
    obtain ⟨h1, h2⟩ := h
    have hk : P.underlying k = some .string := by
      revert h1; cases P.underlying k with | none => simp | some d => cases d <;> simp
    split at h2
    · rename_i i hi
      split at h2
      · rename_i hz; exact ⟨k, e, i, hu, hk, hi, hz⟩
      · cases h2
    · cases h2
  · cases h

theorem run_getObj_map {b : Nat} {es : Array MapEntry} {clock : Nat} {w : World} (h : w.heap[b]? = some (.map es clock)) : (getObj b).run P w = .ok (.map es clock) w := by
  simp [getObj, Sem.run, h]

theorem run_checkKey_string {k : TypeId} {em : Bool} {s : ByteArray} {w : World} (hk : P.underlying k = some .string) : (Instr.checkKey em 10000 k (.string s)).run P w = .ok () w := by
  unfold Instr.checkKey
  rw [run_bind_ok (run_under hk w)]
  rfl

theorem run_findKey_set {k : TypeId} {s : ByteArray} {S : List ByteArray} {es : Array MapEntry} {w : World} (hk : P.underlying k = some .string)
    (h : es.toList.map (fun e => (e.key, e.val)) = S.map (fun s => (Value.string s, Value.bool true))) :
    (s ∈ S → ∃ j, (Instr.findKey k (.string s) es.toList).run P w = .ok (some (j, .bool true)) w) ∧ (s ∉ S → (Instr.findKey k (.string s) es.toList).run P w = .ok none w) := by
  have hf := findNow_set s S es.toList 0 h
  constructor
  · intro hm
    obtain ⟨j, hj⟩ := hf.1 hm
    refine ⟨j, ?_⟩
    unfold Instr.findKey
    rw [run_bind_ok (run_under hk w), hj]
    rfl
  · intro hm
    unfold Instr.findKey
    rw [run_bind_ok (run_under hk w), hf.2 hm]
    rfl

theorem ev_lookup_set {x y : Operand} {t b : Nat} {s : ByteArray} {S : List ByteArray} (hh : Has H (kset b S) := by repeat (first | exact Has.head | apply Has.tail))
    (hx : Gets ρ g x (.map (some b)) := by first | exact .plain rfl | exact .cond rfl id | exact .cond rfl gl) (hy : Gets ρ g y (.string s) := by first | exact .plain rfl | exact .cond rfl id | exact .cond rfl gl)
    (ht : setT P t = true := by kernel_rfl) : Ev P n w0 H ρ g (.lookup t x y false) (.bool (decide (s ∈ S))) := by
  intro w a dst ty pos aft gd hm ho hg
  obtain ⟨k, e, i, hu, hk, hi, hz⟩ := setT_spec ht
  obtain ⟨es, clock, hb, hes⟩ := hh.φ hm
  show (Instr.lookup t (a.eval x) (a.eval y) false >>= fun v => pure (Next.value v)).run P w = _
  rw [hx.eval ho hg, hy.eval ho hg]
  refine run_value ?_
  unfold Instr.lookup
  rw [run_bind_ok (run_under hu w)]
  simp only []
  rw [run_bind_ok (run_getObj_map hb)]
  show (Instr.checkKey es.isEmpty 10000 k (.string s) >>= _).run P w = _
  rw [run_bind_ok (run_checkKey_string hk)]
  have hf := run_findKey_set (w := w) (s := s) hk hes
  by_cases hs : s ∈ S
  · obtain ⟨j, hj⟩ := hf.1 hs
    rw [run_bind_ok hj]
    simp [hs, go_sem]
  · rw [run_bind_ok (hf.2 hs)]
    have hzr : (zeroValue e).run P w = .ok (.bool false) w := by
      unfold zeroValue
      rw [run_bind_ok (run_info hi w)]
      simp only [hz]
      rfl
    simp only []
    rw [run_bind_ok hzr]
    simp [hs, go_sem]

theorem st_makeMap_set {t d : Nat} {ty : TypeId} {pos : String} {aft : Array Edge} {gd : Option (Nat × Bool)}
    (k : ∀ b, C ((d, .v (.map (some b))) :: ρ) (kset b [] :: H)) (hd : Nat.blt d n = true := by rfl) : StepO P n w0 ⟨some d, .makeMap t none, ty, pos, aft, gd⟩ ρ H C := by
  intro K Q hs w a hm ho
  have hr : (execOp a.eval ⟨some d, .makeMap t none, ty, pos, aft, gd⟩).run P w = .ok (.value (.map (some w.heap.size))) (w.alloc (.map #[] 0)) := rfl
  unfold Oper.wp
  rw [hr]
  refine hs _ _ (k w.heap.size) _ _ (hm.add ⟨rfl, rfl, rfl, by simp, fun k hk _ => Below.heap_alloc w _ k hk⟩ ⟨#[], 0, ?_, rfl⟩ ?_) (ho.put (by simpa [Nat.blt_eq] using hd) rfl)
  · show (w.heap.push _)[w.heap.size]? = _
    simp
  · intro k hk
    have : k = w.heap.size := hk
    subst this
    exact ⟨Nat.le_refl _, by show w.heap.size < (w.heap.push _).size; simp⟩

theorem st_mapUpdate_set {x y z : Operand} {t b : Nat} {ty : TypeId} {pos : String} {aft : Array Edge} {gd : Option (Nat × Bool)} {s : ByteArray} {S : List ByteArray} {H' : List Chunk}
    (hn : s ∉ S) (hu : Upd H (kset b S) (kset b (S ++ [s])) H') (k : C ρ H')
    (hx : Gets ρ true x (.map (some b)) := by first | exact .plain rfl | exact .cond rfl id | exact .cond rfl gl) (hy : Gets ρ true y (.string s) := by first | exact .plain rfl | exact .cond rfl id | exact .cond rfl gl)
    (hz : Gets ρ true z (.bool true) := by first | exact .plain rfl | exact .cond rfl id | exact .cond rfl gl)
    (ht : setT P t = true := by kernel_rfl) : StepO P n w0 ⟨none, .mapUpdate t x y z, ty, pos, aft, gd⟩ ρ H C := by
  intro K Q hs w a hm ho
  obtain ⟨kt, e, i, hut, hk, hi, _⟩ := setT_spec ht
  obtain ⟨es, clock, hb, hes⟩ := hu.has.φ hm
  have hlt := hu.has.lt hm (k := b) rfl
  have hrun : (execOp a.eval ⟨none, .mapUpdate t x y z, ty, pos, aft, gd⟩).run P w = .ok .skip { w with heap := w.heap.setIfInBounds b (.map (es.push ⟨.string s, .bool true, clock⟩) (clock + 1)) } := by
    show ((Instr.mapUpdate t (a.eval x) (a.eval y) (a.eval z)) >>= fun _ => pure Next.skip).run P w = _
    rw [hx.eval ho rfl, hy.eval ho rfl, hz.eval ho rfl]
    have : (Instr.mapUpdate t (.map (some b)) (.string s) (.bool true)).run P w = .ok () { w with heap := w.heap.setIfInBounds b (.map (es.push ⟨.string s, .bool true, clock⟩) (clock + 1)) } := by
      unfold Instr.mapUpdate
      rw [run_bind_ok (run_under hut w)]
      simp only []
      rw [run_bind_ok (run_getObj_map hb)]
      simp only []
      rw [run_bind_ok (run_checkKey_string hk), run_bind_ok ((run_findKey_set (w := w) hk hes).2 hn)]
      simp [setObj, Sem.run, hb]
    rw [run_bind_ok this]
    rfl
  unfold Oper.wp
  rw [hrun]
  refine hs _ _ k _ _ (hm.upd hu ⟨rfl, rfl, rfl, by simp, fun kk _ hne => ?_⟩ ⟨_, clock + 1, by simp [hlt]; rfl, by simp [hes]⟩ ?_) ho
  · have : kk ≠ b := hne
    simp [Array.getElem?_setIfInBounds_ne (Ne.symm this)]
  · intro kk hkk
    have : kk = b := hkk
    subst this
    exact ⟨.inl rfl, by simpa using hlt⟩
end
end Go.Eng
namespace Go.Eng
open Go.RowKit
theorem ret_of {w0 w : World} {H : List Chunk} {v v' : Value} (hm : Mem w0 H w) (hv : v = v') (h : Has H (old w0) := by repeat (first | exact Has.head | apply Has.tail)) : Ret w0 v' (.returned v) w :=
  ⟨by rw [hv], hm.below h⟩
end Go.Eng

namespace Go.Eng
open Go.RowKit

theorem Mem.start_but {w : World} (c : Chunk) (hφ : c.φ w) (hfp : ∀ k, c.fp k → k < w.heap.size) : Mem w [c, oldBut w c.fp] w := by
  refine ⟨rfl, rfl, rfl, Nat.le_refl _, fun d hd => ?_, ?_⟩
  · simp at hd
    rcases hd with rfl | rfl
    · exact ⟨hφ, hfp⟩
    · exact ⟨fun _ _ _ => rfl, fun k hk => hk.1⟩
  · rw [List.pairwise_cons]
    refine ⟨fun d hd k hc hd' => ?_, List.pairwise_singleton _ _⟩
    simp at hd
    subst hd
    exact hd'.2 hc

theorem Mem.frame {w0 w : World} {H : List Chunk} {fp : Nat → Prop} (hm : Mem w0 H w) (h : Has H (oldBut w0 fp)) : Frame fp w0 w :=
  ⟨hm.os, hm.tape, hm.output, hm.size, h.φ hm⟩

/-- The contract's form for a call that changes chunk c into one of c', and returns val. -/
def Mut (c : Chunk) {β : Type} (val : β → Value) (R : β → Prop) (c' : β → Chunk) (w : World) (e : Ending) (w' : World) : Prop :=
  ∃ r, e = .returned (val r) ∧ R r ∧ (c' r).φ w' ∧ (∀ k, (c' r).fp k → (c.fp k ∨ w.heap.size ≤ k) ∧ k < w'.heap.size) ∧ Frame c.fp w w'

section
variable {P : Program} {n : Nat} {w0 : World} {ρ : Env} {H : List Chunk} {C : Env → List Chunk → Prop}

theorem st_callm {f d : Nat} {xs : List Operand} {vs : List Value} {ts : Array TypeId} {ty : TypeId} {pos : String} {aft : Array Edge} {gd : Option (Nat × Bool)}
    {β : Type} {c : Chunk} {val : β → Value} {R : β → Prop} {c' : β → Chunk} {H' : β → List Chunk}
    (hc : ∀ w, Mem w0 H w → c.φ w → (∀ k, c.fp k → k < w.heap.size) → Calls P f vs.toArray w (Mut c val R c' w))
    (hh : Has H c := by repeat (first | exact Has.head | apply Has.tail)) (hu : ∀ r, Upd H c (c' r) (H' r) := by intro r; repeat (first | exact Upd.head | apply Upd.tail))
    (ha : GetsG ρ true xs vs := by repeat (first | exact GetsG.nil | (apply GetsG.cons; first | exact .plain rfl | exact .cond rfl id | exact .cond rfl gl)))
    (hd : Nat.blt d n = true := by rfl) (hf : callable P f = true := by kernel_rfl) (k : ∀ r, R r → C ((d, .v (val r)) :: ρ) (H' r)) : StepO P n w0 ⟨some d, .call { callee := .value (.func f), args := xs.toArray, argTypes := ts }, ty, pos, aft, gd⟩ ρ H C := by
  intro K Q hs w a hm ho
  unfold Oper.wp
  rw [run_call (ha.eval ho rfl) hf]
  refine (hc w hm (hh.φ hm) (fun k hk => hh.lt hm hk)).mono ?_
  rintro e w' ⟨r, rfl, hR, hφ, hfp, hfr⟩
  exact hs _ _ (k r hR) w' _ (hm.upd (hu r) hfr hφ hfp) (ho.put (by simpa [Nat.blt_eq] using hd) rfl)
end
end Go.Eng
namespace Go.Eng
open Go.RowKit
section
variable {P : Program} {n : Nat} {w0 : World} {ρ : Env} {H : List Chunk} {g : Bool}

def arr1 (P : Program) (t len : Nat) : Bool :=
  match P.underlying t with
  | some (.array m e) => m == len && oneT P e && (match P.info? e with | some i => i.size == 1 | none => false)
  | _ => false

theorem ev_index_array {x y : Operand} {t : TypeId} {k : IntKind} {cs : List Value} {i : Int} {v : Value} (len : Nat) (hi : g = true → 0 ≤ i ∧ i < (len : Int)) (hv : g = true → cs[i.toNat]? = some v)
    (hx : Gets ρ g x (.agg cs.toArray) := by first | exact .plain rfl | exact .cond rfl id | exact .cond rfl gl) (hy : Gets ρ g y (.int k i) := by first | exact .plain rfl | exact .cond rfl id | exact .cond rfl gl)
    (ht : arr1 P t len = true := by kernel_rfl) : Ev P n w0 H ρ g (.index t x y) v := by
  intro w a dst ty pos aft gd hm ho hg
  have hi' := hi hg
  have hv' := hv hg
  unfold arr1 at ht
  split at ht
  · rename_i m e hu
    simp only [Bool.and_eq_true, beq_iff_eq] at ht
    obtain ⟨⟨h1, h2⟩, h3⟩ := ht
    subst h1
    split at h3
    · rename_i ti hti
      have hsz : ti.size = 1 := by simpa using h3
      show (Instr.index t (a.eval x) (a.eval y) >>= fun v => pure (Next.value v)).run P w = _
      rw [hx.eval ho hg, hy.eval ho hg]
      refine run_value ?_
      unfold Instr.index
      show (underlying t >>= _).run P w = _
      rw [run_bind_ok (run_under hu w)]
      simp only [hi', and_self, if_true]
      rw [run_bind_ok (run_size hti w)]
      unfold part
      rw [run_bind_ok (run_isAgg_false h2 w)]
      simp [hsz, hv', go_sem]
    · cases h3
  · cases ht
end
end Go.Eng
namespace Go.Eng
open Go.RowKit
section
variable {P : Program} {n : Nat} {w0 : World} {ρ : Env} {H : List Chunk} {g : Bool}

theorem run_sliceBound {k : IntKind} {i : Int} {y : Nat} {c : BoundsCode} {w : World} (h : 0 ≤ i ∧ i ≤ (y : Int)) : (Instr.sliceBound (.int k i) y c).run P w = .ok i.toNat w := by
  unfold Instr.sliceBound
  show (if 0 ≤ i ∧ i ≤ (y : Int) then _ else _ : Sem Nat).run P w = _
  rw [if_pos h]
  rfl

/-- A string out of a list of bytes. -/
def bs (l : List UInt8) : ByteArray := ⟨l.toArray⟩
end
end Go.Eng
namespace Go.Eng
theorem Mem.perm {w0 w : World} {H H' : List Chunk} (hm : Mem w0 H w) (h : H.Perm H') : Mem w0 H' w :=
  ⟨hm.os, hm.tape, hm.output, hm.size, fun c hc => hm.all c (h.mem_iff.2 hc), hm.disj.perm h (fun h => h.symm)⟩
end Go.Eng

namespace Go.Eng
open Go.RowKit Go.ChangeShapes Go.WideShapes Go.ChangeAt

theorem spot_none {w : World} {a : Addr} {v : Value} (h : w.cell? a = some v) : a = ⟨a.block, a.off, none⟩ := by
  obtain ⟨b, o, s⟩ := a
  unfold World.cell? at h
  split at h
  · split at h
    · cases h
    · rename_i hs
      cases s with
      | none => rfl
      | some x => simp at hs
  · cases h

end Go.Eng

namespace Go.Eng
open Go.RowKit

section
variable {P : Program} {n : Nat} {w0 : World} {ρ : Env} {H : List Chunk} {C : Env → List Chunk → Prop}

end

/-- A row's header and cells. -/
structure Row where
  a : Option Addr
  n : Nat
  cap : Nat
  xs : List Value
def Row.hdr (r : Row) : Value := .slice r.a r.n r.cap

/-- Rows of the call's own, each a block of its own: those of 'on'. -/
def rowsC (on : Nat → Prop) (e sz : Nat) (rows : List Row) : Chunk where
  fp := fun k => ∃ i r p, rows[i]? = some r ∧ on i ∧ r.a = some p ∧ k = p.block
  φ := fun w => (∀ i r, rows[i]? = some r → on i → w.ownsRow 0 e sz (.slice r.a r.n r.cap) r.n r.xs) ∧
    (∀ i j r s p q, i ≠ j → rows[i]? = some r → rows[j]? = some s → on i → on j → r.a = some p → s.a = some q → p.block ≠ q.block)
  dep := fun w w' h hw => by
    obtain ⟨h2, h3⟩ := hw
    refine ⟨fun i r hr hon => ?_, h3⟩
    exact (row e sz r.a r.n r.cap r.xs).dep w w' (fun k hk => by obtain ⟨p, hp, rfl⟩ := hk; exact h _ ⟨i, r, p, hr, hon, hp, rfl⟩) (h2 i r hr hon)

section
variable {w0 w : World} {H : List Chunk} {e sz : Nat} {rows : List Row} {on : Nat → Prop}

theorem sl_ownsRow {e sz m cap : Nat} {a : Option Addr} {xs : List Value} (h : w.ownsRow 0 e sz (.slice a m cap) m xs) (hlt : ∀ p, a = some p → p.block < w.heap.size) : Sl 0 w.heap.size w a xs := fun j u hu => by
  have hpos : 0 < m := by
    rcases Nat.eq_zero_or_pos m with h0 | h0
    · have := h.1; rw [h0, Nat.zero_mul] at this
      have : xs = [] := List.length_eq_zero_iff.1 this
      subst this; simp at hu
    · exact h0
  have ha := row_addr (e := e) (sz := sz) (cap := cap) (xs := xs) h hpos
  exact ⟨ha.1, Nat.zero_le _, hlt _ ha.1, row_cell (e := e) (sz := sz) (cap := cap) h hu⟩

theorem sl_rows {i : Nat} {r : Row} (hr : rows[i]? = some r) (hon : on i) (hm : Mem w0 H w) (hh : Has H (rowsC on e sz rows)) : Sl 0 w.heap.size w r.a r.xs :=
  sl_ownsRow ((hh.φ hm).1 i r hr hon) (fun p hp => hh.lt hm ⟨i, r, p, hr, hon, hp, rfl⟩)

/-- One row is taken out. -/
theorem rows_split {i : Nat} {r : Row} (hr : rows[i]? = some r) (hon : on i) (hm : Mem w0 (rowsC on e sz rows :: H) w) :
    Mem w0 (row e sz r.a r.n r.cap r.xs :: rowsC (fun j => on j ∧ j ≠ i) e sz rows :: H) w := by
  have hφ := (Has.head : Has (rowsC on e sz rows :: H) _).φ hm
  have hlt : ∀ k, (rowsC on e sz rows).fp k → k < w.heap.size := fun k hk => (Has.head : Has (rowsC on e sz rows :: H) _).lt hm hk
  obtain ⟨h2, h3⟩ := hφ
  have hd := List.pairwise_cons.1 hm.disj
  refine ⟨hm.os, hm.tape, hm.output, hm.size, ?_, ?_⟩
  · intro c hc
    rcases List.mem_cons.1 hc with rfl | hc
    · exact ⟨h2 i r hr hon, fun k hk => by obtain ⟨p, hp, rfl⟩ := hk; exact hlt _ ⟨i, r, p, hr, hon, hp, rfl⟩⟩
    · rcases List.mem_cons.1 hc with rfl | hc
      · refine ⟨⟨fun j s hs ho => h2 j s hs ho.1, fun j j' s s' p q hne hs hs' ho ho' => h3 j j' s s' p q hne hs hs' ho.1 ho'.1⟩, fun k hk => hlt k ?_⟩
        obtain ⟨j, s, p, hs, ho, hp, rfl⟩ := hk
        exact ⟨j, s, p, hs, ho.1, hp, rfl⟩
      · exact hm.all c (List.mem_cons_of_mem _ hc)
  · rw [List.pairwise_cons, List.pairwise_cons]
    refine ⟨fun c hc k hk hk' => ?_, fun c hc k hk hk' => ?_, hd.2⟩
    · obtain ⟨p, hp, rfl⟩ := hk
      rcases List.mem_cons.1 hc with rfl | hc
      · obtain ⟨j, s, q, hs, ho, hq, e⟩ := hk'
        exact h3 i j r s p q (Ne.symm ho.2) hr hs hon ho.1 hp hq e
      · exact hd.1 c hc p.block ⟨i, r, p, hr, hon, hp, rfl⟩ hk'
    · refine hd.1 c hc k ?_ hk'
      obtain ⟨j, s, p, hs, ho, hp, rfl⟩ := hk
      exact ⟨j, s, p, hs, ho.1, hp, rfl⟩

/-- A row is put in, at the place that is out; what stood there does not matter. -/
theorem rows_join {i : Nat} {r : Row} (hi : i < rows.length) (hm : Mem w0 (row e sz r.a r.n r.cap r.xs :: rowsC (fun j => True ∧ j ≠ i) e sz rows :: H) w) :
    Mem w0 (rowsC (fun _ => True) e sz (rows.set i r) :: H) w := by
  have hrow := (Has.head : Has (row e sz r.a r.n r.cap r.xs :: rowsC (fun j => True ∧ j ≠ i) e sz rows :: H) _).φ hm
  have hg := ((Has.head).tail : Has (row e sz r.a r.n r.cap r.xs :: rowsC (fun j => True ∧ j ≠ i) e sz rows :: H) (rowsC (fun j => True ∧ j ≠ i) e sz rows)).φ hm
  have hd := List.pairwise_cons.1 hm.disj
  have hd2 := List.pairwise_cons.1 hd.2
  have hrg := hd.1 (rowsC (fun j => True ∧ j ≠ i) e sz rows) List.mem_cons_self
  obtain ⟨h2, h3⟩ := hg
  have get : ∀ j s, (rows.set i r)[j]? = some s → (j = i ∧ s = r) ∨ (j ≠ i ∧ rows[j]? = some s) := fun j s hs => by
    by_cases hji : j = i
    · subst hji
      rw [List.getElem?_set_self hi] at hs
      cases hs
      exact .inl ⟨rfl, rfl⟩
    · rw [List.getElem?_set_ne (Ne.symm hji)] at hs
      exact .inr ⟨hji, hs⟩
  refine ⟨hm.os, hm.tape, hm.output, hm.size, ?_, ?_⟩
  · intro c hc
    rcases List.mem_cons.1 hc with rfl | hc
    · refine ⟨⟨fun j s hs _ => ?_, fun j j' s s' p q hne hs hs' _ _ hp hq => ?_⟩, fun k hk => ?_⟩
      · rcases get j s hs with ⟨_, rfl⟩ | ⟨hji, hs⟩
        · exact hrow
        · exact h2 j s hs ⟨trivial, hji⟩
      · rcases get j s hs with ⟨rfl, rfl⟩ | ⟨hji, hs1⟩
        · rcases get j' s' hs' with ⟨rfl, rfl⟩ | ⟨hji', hs'⟩
          · exact absurd rfl hne
          · intro e
            exact hrg p.block ⟨p, hp, rfl⟩ ⟨j', s', q, hs', ⟨trivial, hji'⟩, hq, e⟩
        · rcases get j' s' hs' with ⟨rfl, rfl⟩ | ⟨hji', hs2⟩
          · intro e
            exact hrg q.block ⟨q, hq, rfl⟩ ⟨j, s, p, hs1, ⟨trivial, hji⟩, hp, e.symm⟩
          · exact h3 j j' s s' p q hne hs1 hs2 ⟨trivial, hji⟩ ⟨trivial, hji'⟩ hp hq
      · obtain ⟨j, s, p, hs, _, hp, rfl⟩ := hk
        rcases get j s hs with ⟨rfl, rfl⟩ | ⟨hji, hs⟩
        · exact (hm.all _ List.mem_cons_self).2 _ ⟨p, hp, rfl⟩
        · exact (hm.all _ (List.mem_cons_of_mem _ List.mem_cons_self)).2 _ ⟨j, s, p, hs, ⟨trivial, hji⟩, hp, rfl⟩
    · exact hm.all c (List.mem_cons_of_mem _ (List.mem_cons_of_mem _ hc))
  · rw [List.pairwise_cons]
    refine ⟨fun c hc k hk hk' => ?_, hd2.2⟩
    obtain ⟨j, s, p, hs, _, hp, rfl⟩ := hk
    rcases get j s hs with ⟨rfl, rfl⟩ | ⟨hji, hs⟩
    · exact hd.1 c (List.mem_cons_of_mem _ hc) _ ⟨p, hp, rfl⟩ hk'
    · exact hd2.1 c hc _ ⟨j, s, p, hs, ⟨trivial, hji⟩, hp, rfl⟩ hk'

/-- Rows that are all nil. -/
theorem rows_new {m : Nat} (hm : Mem w0 H w) : Mem w0 (rowsC (fun _ => True) e sz (List.replicate m (⟨none, 0, 0, []⟩ : Row)) :: H) w := by
  have hg : ∀ i r, (List.replicate m (⟨none, 0, 0, []⟩ : Row))[i]? = some r → r = (⟨none, 0, 0, []⟩ : Row) := fun i r hr => by
    rw [List.getElem?_replicate] at hr
    split at hr
    · simpa using hr.symm
    · cases hr
  refine hm.add (c := rowsC (fun _ => True) e sz (List.replicate m (⟨none, 0, 0, []⟩ : Row))) (Frame.refl _ w) ⟨fun i r hr _ => ?_, fun i j r s p q _ hr hs _ _ hp => ?_⟩ ?_
  · have := hg i r hr; subst this; exact World.ownsRow_nil w 0 e sz
  · have := hg i r hr; subst this; cases hp
  · rintro k ⟨i, r, p, hr, _, hp, rfl⟩
    have := hg i r hr; subst this; cases hp
end
end Go.Eng
namespace Go.Eng
open Go.RowKit
section
variable {P : Program} {n : Nat} {w0 : World} {ρ : Env} {H : List Chunk}

/-- What a result variable holds. -/
inductive ResV (P : Program) (ρ : Env) (H : List Chunk) : ResultVar → Value → Prop
  | tmp {t : Tmp} {v : Value} (h : look ρ t = some (.v v)) : ResV P ρ H (.tmp t) v
  | cell {a : Tmp} {t b T m : Nat} {l : List Value} (h : look ρ a = some (.v (.pointer (some ⟨b, 0, none⟩)))) (hh : Has H (own b T l)) (hl : l.length = m) (ht : aggT P t = some m) : ResV P ρ H (.cell a t) (.agg l.toArray)
  | one {a : Tmp} {t b T : Nat} {v : Value} (h : look ρ a = some (.v (.pointer (some ⟨b, 0, none⟩)))) (hh : Has H (own b T [v])) (ht : oneT P t = true) : ResV P ρ H (.cell a t) v

def rvOf (tmps : Array Value) : ResultVar → Sem Value
  | .tmp t => pure (tmps.getD t undef)
  | .cell a t => do loadVar t (← asAddr (tmps.getD a undef))

theorem ResV.run {r : ResultVar} {v : Value} {w : World} {a : Act} (h : ResV P ρ H r v) (hm : Mem w0 H w) (ho : Ok n ρ a) : (rvOf a.tmps r).run P w = .ok v w := by
  cases h with
  | @tmp t v h =>
    have := Gets.eval (x := .tmp t) (.plain h) ho rfl
    simp only [Act.eval] at this
    show Result.ok _ w = _
    rw [this]
  | @cell a' t b T m l h hh hl ht =>
    have := Gets.eval (x := .tmp a') (.plain h) ho rfl
    simp only [Act.eval] at this
    show (asAddr (a.tmps.getD a' undef) >>= fun p => loadVar t p).run P w = _
    rw [this]
    show (loadVar t ⟨b, 0, none⟩).run P w = _
    refine run_loadVar_agg ht hl fun j v hv => ?_
    have := own_cell (hh.φ hm) hv
    by_cases h0 : j = 0
    · subst h0; exact this
    · simp only [Addr.add, h0, if_false, Nat.zero_add]; exact this
  | @one a' t b T v h hh ht =>
    have := Gets.eval (x := .tmp a') (.plain h) ho rfl
    simp only [Act.eval] at this
    show (asAddr (a.tmps.getD a' undef) >>= fun p => loadVar t p).run P w = _
    rw [this]
    exact run_loadVar_one ht (own_cell (hh.φ hm) rfl)

theorem run_results1 {fn : Func} {r : ResultVar} {tmps : Array Value} {v : Value} {w : World} (h : fn.results = #[r]) (h1 : (rvOf tmps r).run P w = .ok v w) : (results fn tmps).run P w = .ok v w := by
  have e : results fn tmps = (rvOf tmps r >>= fun v => pure v) := by
    unfold results
    rw [h]
    cases r <;> simp [rvOf]
  rw [e, run_bind_ok h1]
  rfl
theorem run_results2 {fn : Func} {r1 r2 : ResultVar} {tmps : Array Value} {v1 v2 : Value} {w : World} (h : fn.results = #[r1, r2]) (h1 : (rvOf tmps r1).run P w = .ok v1 w) (h2 : (rvOf tmps r2).run P w = .ok v2 w) :
    (results fn tmps).run P w = .ok (.tuple #[v1, v2]) w := by
  have e : results fn tmps = (rvOf tmps r1 >>= fun v1 => rvOf tmps r2 >>= fun v2 => pure (.tuple #[v1, v2])) := by
    unfold results
    rw [h]
    cases r1 <;> cases r2 <;> simp [rvOf]
  rw [e, run_bind_ok h1, run_bind_ok h2]
  rfl
variable {fn : Func} {R : Ending → World → Prop}
theorem kw_retc1 {r : ResultVar} {v : Value} (h : ∀ w, Mem w0 H w → R (.returned v) w) (hr : fn.results = #[r] := by rfl)
    (hv : ResV P ρ H r v := by first | exact .tmp rfl | exact .cell rfl (by repeat (first | exact Has.head | apply Has.tail)) rfl (by kernel_rfl)) : KW n w0 (fun a w => bodyPost P fn R .ret a w) ρ H := fun w _ hm ho => ⟨ho.nodef, v, run_results1 hr (hv.run hm ho), h w hm⟩
theorem kw_retc2 {r1 r2 : ResultVar} {v1 v2 : Value} (h : ∀ w, Mem w0 H w → R (.returned (.tuple #[v1, v2])) w)
    (hr : fn.results = #[r1, r2] := by rfl)
    (hv1 : ResV P ρ H r1 v1 := by first | exact .tmp rfl | exact .cell rfl (by repeat (first | exact Has.head | apply Has.tail)) rfl (by kernel_rfl))
    (hv2 : ResV P ρ H r2 v2 := by first | exact .tmp rfl | exact .cell rfl (by repeat (first | exact Has.head | apply Has.tail)) rfl (by kernel_rfl)) :
    KW n w0 (fun a w => bodyPost P fn R .ret a w) ρ H := fun w _ hm ho => ⟨ho.nodef, .tuple #[v1, v2], run_results2 hr (hv1.run hm ho) (hv2.run hm ho), h w hm⟩
end
end Go.Eng
namespace Go.Eng
/-- One chunk is brought to the front. -/
inductive Sel : List Chunk → Chunk → List Chunk → Prop
  | head {c : Chunk} {H : List Chunk} : Sel (c :: H) c H
  | tail {c d : Chunk} {H H' : List Chunk} : Sel H c H' → Sel (d :: H) c (d :: H')
theorem Sel.perm {H H' : List Chunk} {c : Chunk} (h : Sel H c H') : H.Perm (c :: H') := by
  induction h with
  | head => exact .refl _
  | tail _ ih => exact (List.Perm.cons _ ih).trans (.swap _ _ _)
theorem Mem.front {w0 w : World} {H H' : List Chunk} {c : Chunk} (hm : Mem w0 H w) (h : Sel H c H') : Mem w0 (c :: H') w := hm.perm h.perm
end Go.Eng

namespace Go.Eng
open Go.RowKit
section
variable {P : Program} {ops : Array Oper} {Q : Exit → Act → World → Prop} {md : Region.Mode} {S : World → Prop}

/-- Whatever order is picked, and S holds behind every operation but number z. -/
def wpAnyZ (P : Program) (md : Region.Mode) (ops : Array Oper) (Q : Exit → Act → World → Prop) (S : World → Prop) (z : Nat) : Nat → Array Bool → Act → World → Prop
  | 0, listed, a, w => Region.ready md ops listed = [] ∧ Q .normal a w
  | fuel + 1, listed, a, w =>
    (Region.ready md ops listed = [] → Q .normal a w) ∧
    ∀ i ∈ Region.ready md ops listed, wpOp P ops Q i (fun a' w' => (i ≠ z → S w') ∧ wpAnyZ P md ops Q S z fuel (listed.setIfInBounds i true) a' w') a w

theorem wpAny_of_Z {z : Nat} : ∀ (fuel : Nat) (listed : Array Bool) (a : Act) (w : World), wpAnyZ P md ops Q S z fuel listed a w → wpAny P md ops Q fuel listed a w
  | 0, _, _, _, h => h
  | fuel + 1, _, _, _, h => ⟨h.1, fun i hi => wpOp_mono (fun a' w' h' => wpAny_of_Z fuel _ a' w' h'.2) (h.2 i hi)⟩

theorem wpAnyZ_first {z i : Nat} {oi : Oper} {v : Value} (hi : ops[i]? = some oi) (hsel : ∀ (j : Nat) (o : Oper) cs b, ops[j]? = some o → o.op ≠ .select cs b)
    (hQ : ∀ c a w, Q (.panic c) (a.put oi.dst v) w → Q (.panic c) a w) (hs : Region.sinkB md ops z = true) (hc : Region.chainB md ops z = true) (hz : z < ops.size) (hiz : i < z) :
    ∀ (fuel : Nat) (listed : Array Bool) (a : Act) (w : World), HeadInv md ops z listed →
      (∀ j oj, ops[j]? = some oj → j ≠ i → listed.getD j true = false → (∀ e ∈ oj.after, Region.binds md e = true → e.on ≠ i) → oi.apart ops oj = true) →
      i ∈ Region.ready md ops listed → YieldsIf P ops S oi v a → S w →
      wpAnyZ P md ops Q S z fuel (listed.setIfInBounds i true) (a.put oi.dst v) w → wpAnyZ P md ops Q S z (fuel + 1) listed a w := by
  intro fuel
  induction fuel with
  | zero =>
    intro listed a w _ _ hr hy hS H
    refine ⟨fun h => (by rw [h] at hr; cases hr), fun j hj => ?_⟩
    by_cases hji : j = i
    · subst hji; exact hy.wpOp hi hS ⟨fun _ => hS, H⟩
    · have := ready_mono hj hji
      rw [H.1] at this
      cases this
  | succ fuel ih =>
    intro listed a w inv hfree hr hy hS H
    have hun := (mem_ready.1 hr).1
    refine ⟨fun h => (by rw [h] at hr; cases hr), fun j hj => ?_⟩
    by_cases hji : j = i
    · subst hji; exact hy.wpOp hi hS ⟨fun _ => hS, H⟩
    · have h1 := H.2 j (ready_mono hj hji)
      obtain ⟨hjun, oj, hoj, hall⟩ := mem_ready.1 hj
      have hjsz : j < ops.size := (Array.getElem?_eq_some_iff.1 hoj).1
      have hjz : j < z := by
        rcases Nat.lt_or_ge j z with h | h
        · exact h
        · exact absurd hj (tail_waits hs hc hz inv _ i rfl hiz hun j h)
      have hnot : ∀ e ∈ oj.after, Region.binds md e = true → e.on ≠ i := fun e he hb heq => by
        have h1 := hall e he hb
        rw [heq, getD_both hun] at h1
        cases h1
      have h2 := wpOp_putIf hoj (hfree j oj hoj hji hjun hnot) (fun cs b => hsel i oi cs b hi) (fun cs b => hsel j oj cs b hoj) hQ hy h1
      have hfree' : ∀ k ok, ops[k]? = some ok → k ≠ i → (listed.setIfInBounds j true).getD k true = false →
          (∀ e ∈ ok.after, Region.binds md e = true → e.on ≠ i) → oi.apart ops ok = true := fun k ok hk hki hun hno => by
        refine hfree k ok hk hki ?_ hno
        by_cases hjk : j = k
        · subst hjk; exact hjun
        · rw [getD_set_ne true hjk] at hun; exact hun
      refine wpOp_mono (fun a' w' h3 => ⟨h3.2.1, ih (listed.setIfInBounds j true) a' w' (inv.set hj hjz) hfree' (ready_mono hr (Ne.symm hji)) h3.1 (h3.2.1 (by omega)) ?_⟩) h2
      rw [Array.setIfInBounds_comm _ _ hji]
      exact h3.2.2

/-- HeadInv, reckoned. -/
def headB (md : Region.Mode) (ops : Array Oper) (z : Nat) (listed : Array Bool) : Bool :=
  listed.size == ops.size && (List.range ops.size).all (fun j => !listed.getD j false || (match ops[j]? with | some oj => oj.after.all (fun e => !Region.binds md e || listed.getD e.on false) | none => true)) &&
  (List.range ops.size).all (fun t => decide (t < z) || !listed.getD t true)

theorem headB_spec {z : Nat} {listed : Array Bool} (h : headB md ops z listed = true) : HeadInv md ops z listed := by
  unfold headB at h
  simp only [Bool.and_eq_true, beq_iff_eq, List.all_eq_true, List.mem_range, Bool.or_eq_true, Bool.not_eq_true', decide_eq_true_eq] at h
  obtain ⟨⟨h1, h2⟩, h3⟩ := h
  refine ⟨h1, fun j oj hj hl e he hb => ?_, fun t ht ht' => ?_⟩
  · have hlt : j < ops.size := (Array.getElem?_eq_some_iff.1 hj).1
    rcases h2 j hlt with h | h
    · rw [hl] at h; cases h
    · rw [hj] at h
      have := Array.all_eq_true_iff_forall_mem.1 h e he
      simpa [hb] using this
  · rcases h3 t ht' with h | h
    · omega
    · exact h
end

/-- A region in whatever order; z: its last operation, which waits for all others; Hs: the chunks that stay till then. -/
def AZ (P : Program) (n : Nat) (w0 : World) (ops : Array Oper) (K : Act → World → Prop) (Hs : List Chunk) (z fuel : Nat) (listed : Array Bool) (ρ : Env) (H : List Chunk) : Prop :=
  ∀ w a, Mem w0 H w → Ok n ρ a → wpAnyZ P .any ops (fun e a w => e = .normal ∧ K a w) (fun w => Mem w0 Hs w) z fuel listed a w

section
variable {P : Program} {n : Nat} {w0 : World} {ops : Array Oper} {Q : Exit → Act → World → Prop} {ρ : Env} {H : List Chunk} {K : Act → World → Prop} {Hs : List Chunk} {z fuel : Nat} {listed : Array Bool}

theorem az_imp {H' : List Chunk} (h : ∀ w, Mem w0 H w → Mem w0 H' w) (k : AZ P n w0 ops K Hs z fuel listed ρ H') : AZ P n w0 ops K Hs z fuel listed ρ H := fun w a hm ho => k w a (h w hm) ho
theorem az_done (k : KW n w0 K ρ H) (hr : Region.ready .any ops listed = [] := by kernel_rfl) : AZ P n w0 ops K Hs z fuel listed ρ H := fun w a hm ho => by
  cases fuel with
  | zero => exact ⟨hr, rfl, k w a hm ho⟩
  | succ f => exact ⟨fun _ => ⟨rfl, k w a hm ho⟩, by rw [hr]; simp⟩

/-- The closed facts on the region's last operation. -/
def lastB (ops : Array Oper) (z : Nat) : Bool := Region.sinkB .any ops z && Region.chainB .any ops z && decide (z + 1 = ops.size) && Region.noSelect ops

theorem az_ev {op : Op} {v : Value} {d : Nat} {ty : TypeId} {pos : String} {aft : Array Edge} (i : Nat) (hi : ops[i]? = some ⟨some d, op, ty, pos, aft, none⟩)
    (h : Ev P n w0 Hs ρ true op v) (k : AZ P n w0 ops K Hs z fuel (listed.setIfInBounds i true) ((d, .v v) :: ρ) H)
    (hd : Nat.blt d n = true := by rfl) (h1 : lastB ops z = true := by kernel_rfl) (h0 : headB .any ops z listed = true := by kernel_rfl) (hiz : Nat.blt i z = true := by rfl)
    (h2 : Region.free .any ops listed i = true := by kernel_rfl) (h3 : (Region.ready .any ops listed).contains i = true := by kernel_rfl)
    (himp : ∀ w, Mem w0 H w → Mem w0 Hs w := by (intro w hm; exact hm.sub (by repeat (first | exact List.Sublist.refl _ | apply List.Sublist.cons_cons | apply List.Sublist.cons)))) : AZ P n w0 ops K Hs z (fuel + 1) listed ρ H := by
  intro w a hm ho
  simp only [lastB, Bool.and_eq_true, decide_eq_true_eq] at h1
  refine wpAnyZ_first (v := v) hi (Region.noSelect_spec h1.2) (fun c a w h => by cases h.1) h1.1.1.1 h1.1.1.2 (by omega) (by simpa [Nat.blt_eq] using hiz) fuel listed a w (headB_spec h0) (Region.free_spec hi h2) (by simpa using h3) (.inl ⟨rfl, fun w' hS => ?_⟩) (himp w hm) ?_
  · exact h w' a _ _ _ _ _ hS ho rfl
  · exact k w _ hm (ho.put (by simpa [Nat.blt_eq] using hd) rfl)

/-- The one operation that may come up, before the last. -/
theorem az_one (i : Nat) {o : Oper} (hi : ops[i]? = some o) (h : StepO P n w0 o ρ H (fun ρ' H' => (∀ w, Mem w0 H' w → Mem w0 Hs w) ∧ AZ P n w0 ops K Hs z fuel (listed.setIfInBounds i true) ρ' H'))
    (hg : o.guard = none := by rfl) (hr : Region.ready .any ops listed = [i] := by kernel_rfl) : AZ P n w0 ops K Hs z (fuel + 1) listed ρ H := by
  intro w a hm ho
  refine ⟨fun h => (by rw [hr] at h; cases h), fun j hj => ?_⟩
  rw [hr] at hj
  simp at hj; subst hj
  unfold wpOp
  simp only [hi, Region.wanted, hg, if_true]
  refine .inl (h _ _ ?_ w a hm ho)
  intro ρ' H' ⟨c1, c2⟩ w' a' hm' ho'
  exact ⟨fun _ => c1 w' hm', c2 w' a' hm' ho'⟩

/-- The last operation. -/
theorem az_last {o : Oper} (hi : ops[z]? = some o) (h : StepO P n w0 o ρ H (AZ P n w0 ops K Hs z fuel (listed.setIfInBounds z true)))
    (hg : o.guard = none := by rfl) (hr : Region.ready .any ops listed = [z] := by kernel_rfl) : AZ P n w0 ops K Hs z (fuel + 1) listed ρ H := by
  intro w a hm ho
  refine ⟨fun h => (by rw [hr] at h; cases h), fun j hj => ?_⟩
  rw [hr] at hj
  simp at hj; subst hj
  unfold wpOp
  simp only [hi, Region.wanted, hg, if_true]
  refine .inl (h _ _ ?_ w a hm ho)
  intro ρ' H' c2 w' a' hm' ho'
  exact ⟨fun hne => absurd rfl hne, c2 w' a' hm' ho'⟩

theorem cw_region_z {id : Nat} {ops : Array Oper} (Hs : List Chunk) (z : Nat) (h : AZ P n w0 ops (fun a w => Q .normal a w) Hs z ops.size (Array.replicate ops.size false) ρ H) (hm : P.follows .mixedOrders = true := by kernel_rfl) :
    CW P n w0 (.region id ops true) Q ρ H := by
  intro w a hmm ho
  have := wp_region_any (id := id) (P := P) (Q := fun e a w => e = .normal ∧ Q .normal a w) hm (wpAny_of_Z _ _ _ _ (h _ a (hmm.drawn (w.drawn + 1)) ho))
  exact wp_mono this (fun e a w hq => by obtain ⟨rfl, hk⟩ := hq; exact hk)
end
end Go.Eng

/- Engine of the decompiler, part 1: symbolic execution of Go code over an environment of known slots and a list of chunks of memory; a soup of blocks that stay as they are. -/
import Derived.OrdersHeld
import Derived.Tactics
import Derived.Below
import Derived.KernelRfl
import Derived.WalkKit
import Derived.Deep.LoopGhost
namespace Go.Dc
open Go.RowKit

/-- What is known of a slot: its value, or its value under a condition (else it is undefined). -/
inductive EV where
  | v (x : Value)
  | c (b : Bool) (x : Value)

def EV.ok : EV → Option Value → Prop
  | .v x, u => u = some x
  | .c b x, u => u = some (match b with | true => x | false => undef)

abbrev Env := List (Nat × EV)

def look : Env → Nat → Option EV
  | [], _ => none
  | p :: r, t => match Nat.beq p.1 t with | true => some p.2 | false => look r t

def evc (ρ : Env) : Operand → Option EV
  | .tmp t => look ρ t
  | .const v => some (.v v)
  | .global g => some (.v (.pointer (some ⟨g, 0, none⟩)))
  | .func f => some (.v (.func (.func f) #[] #[]))

theorem beq_ne {a b : Nat} (h : a ≠ b) : Nat.beq a b = false := Bool.eq_false_iff.2 (fun e => h (Nat.eq_of_beq_eq_true e))

structure Ok (n : Nat) (ρ : Env) (a : Act) : Prop where
  size : a.tmps.size = n
  nodef : a.defers = []
  get : ∀ t e, look ρ t = some e → e.ok (a.tmps[t]?)

theorem Ok.put {n : Nat} {ρ : Env} {a : Act} {d : Nat} {e : EV} {u : Value} (h : Ok n ρ a) (hd : d < n) (he : e.ok (some u)) : Ok n ((d, e) :: ρ) (a.put (some d) u) := by
  refine ⟨by simp [Act.put, h.size], by simp [Act.put, h.nodef], fun t f hf => ?_⟩
  simp only [look] at hf
  by_cases hdt : d = t
  · subst hdt
    simp at hf
    subst hf
    have : d < a.tmps.size := by rw [h.size]; exact hd
    simpa [Act.put, this] using he
  · have hb : Nat.beq d t = false := beq_ne hdt
    rw [hb] at hf
    have := h.get t f hf
    simpa [Act.put, Array.getElem?_setIfInBounds_ne hdt] using this

theorem Ok.put_none {n : Nat} {ρ : Env} {a : Act} {u : Value} (h : Ok n ρ a) : Ok n ρ (a.put none u) := h

/-- The operand's value, wherever g holds. -/
inductive Gets (ρ : Env) (g : Bool) (x : Operand) (v : Value) : Prop
  | plain (h : evc ρ x = some (.v v))
  | cond {b : Bool} (h : evc ρ x = some (.c b v)) (hi : g = true → b = true)

theorem Gets.eval {n : Nat} {ρ : Env} {g : Bool} {x : Operand} {v : Value} {a : Act} (h : Gets ρ g x v) (ho : Ok n ρ a) (hg : g = true) : a.eval x = v := by
  cases h with
  | plain h =>
    cases x with
    | tmp t => have := ho.get t _ h; simp only [EV.ok] at this; simp [Act.eval, Array.getD_eq_getD_getElem?, this]
    | const u => simp [evc] at h; simpa [Act.eval] using h
    | global g => simp [evc] at h; simpa [Act.eval] using h
    | func f => simp [evc] at h; simpa [Act.eval] using h
  | cond h hi =>
    have hb := hi hg
    cases x with
    | tmp t => have := ho.get t _ h; simp only [EV.ok, hb] at this; simp [Act.eval, Array.getD_eq_getD_getElem?, this]
    | const u => simp [evc] at h
    | global g => simp [evc] at h
    | func f => simp [evc] at h

def Sub (ρ' ρ : Env) : Prop := ∀ t e, look ρ' t = some e → look ρ t = some e

theorem Ok.sub {n : Nat} {ρ ρ' : Env} {a : Act} (h : Ok n ρ a) (hs : Sub ρ' ρ) : Ok n ρ' a := ⟨h.size, h.nodef, fun t e he => h.get t e (hs t e he)⟩

/-- The environment ρ' entry by entry. -/
def SubL : Env → Env → Prop
  | [], _ => True
  | p :: r, ρ => look ρ p.1 = some p.2 ∧ SubL r ρ

theorem SubL.sub : ∀ {ρ' ρ : Env}, SubL ρ' ρ → Sub ρ' ρ
  | [], _, _ => fun t e h => by simp [look] at h
  | p :: r, ρ, ⟨h1, h2⟩ => fun t e h => by
    simp only [look] at h
    by_cases hb : p.1 = t
    · subst hb
      simp at h
      subst h
      exact h1
    · have hb' : Nat.beq p.1 t = false := beq_ne hb
      rw [hb'] at h
      exact h2.sub t e h

/-! ### Memory -/

abbrev Soup := Nat → Prop

/-- A fact on memory: fp: the blocks that it owns; S: blocks that nobody writes any more. -/
structure Chunk where
  fp : Nat → Prop
  φ : Soup → World → Prop
  dep : ∀ (S : Soup) (w w' : World), (∀ k, fp k ∨ S k → w'.heap[k]? = w.heap[k]?) → φ S w → φ S w'
  mono : ∀ (S S' : Soup) (w : World), (∀ k, S k → S' k) → φ S w → φ S' w

def Disj (c d : Chunk) : Prop := ∀ k, c.fp k → ¬ d.fp k
theorem Disj.symm {c d : Chunk} (h : Disj c d) : Disj d c := fun k hd hc => h k hc hd

/-- Nothing but the blocks of fp, and new blocks, has changed. -/
structure Frame (fp : Nat → Prop) (w w' : World) : Prop where
  os : w'.os = w.os
  tape : w'.tape = w.tape
  output : w'.output = w.output
  size : w.heap.size ≤ w'.heap.size
  block : ∀ k, k < w.heap.size → ¬ fp k → w'.heap[k]? = w.heap[k]?

theorem Frame.of_below {w w' : World} {fp : Nat → Prop} (h : Below w.heap.size w w') : Frame fp w w' := ⟨h.os, h.tape, h.output, h.size, fun k hk _ => h.block k hk⟩
theorem Frame.refl (fp : Nat → Prop) (w : World) : Frame fp w w := ⟨rfl, rfl, rfl, Nat.le_refl _, fun _ _ _ => rfl⟩
theorem Frame.trans {fp : Nat → Prop} {w w1 w2 : World} (h : Frame fp w w1) (h' : Frame fp w1 w2) : Frame fp w w2 :=
  ⟨h'.os.trans h.os, h'.tape.trans h.tape, h'.output.trans h.output, Nat.le_trans h.size h'.size,
    fun k hk hn => (h'.block k (Nat.lt_of_lt_of_le hk h.size) hn).trans (h.block k hk hn)⟩

/-- Where a call began: its world, the blocks that it may change, the blocks that stay. -/
structure Ctx where
  w0 : World
  F : Nat → Prop
  S0 : Soup

structure MemS (S : Soup) (κ : Ctx) (H : List Chunk) (w : World) : Prop where
  frame : Frame κ.F κ.w0 w
  sub : ∀ k, κ.S0 k → S k
  sup : ∀ k, S k → κ.S0 k ∨ κ.F k ∨ κ.w0.heap.size ≤ k
  lt : ∀ k, S k → k < w.heap.size
  all : ∀ c ∈ H, c.φ S w ∧ ∀ k, c.fp k → k < w.heap.size ∧ ¬ S k ∧ (κ.F k ∨ κ.w0.heap.size ≤ k)
  disj : H.Pairwise Disj

def Mem (κ : Ctx) (H : List Chunk) (w : World) : Prop := ∃ S, MemS S κ H w

/-- One chunk of the list is replaced, in its place. -/
inductive Upd : List Chunk → Chunk → Chunk → List Chunk → Prop
  | head {c c' : Chunk} {H : List Chunk} : Upd (c :: H) c c' (c' :: H)
  | tail {c c' d : Chunk} {H H' : List Chunk} : Upd H c c' H' → Upd (d :: H) c c' (d :: H')

inductive Has : List Chunk → Chunk → Prop
  | head {c : Chunk} {H : List Chunk} : Has (c :: H) c
  | tail {c d : Chunk} {H : List Chunk} : Has H c → Has (d :: H) c

theorem Has.mem {H : List Chunk} {c : Chunk} (h : Has H c) : c ∈ H := by
  induction h with
  | head => exact List.mem_cons_self
  | tail _ ih => exact List.mem_cons_of_mem _ ih

theorem Has.φ {S : Soup} {κ : Ctx} {w : World} {H : List Chunk} {c : Chunk} (h : Has H c) (hm : MemS S κ H w) : c.φ S w := (hm.all c h.mem).1
theorem Has.lt {S : Soup} {κ : Ctx} {w : World} {H : List Chunk} {c : Chunk} (h : Has H c) (hm : MemS S κ H w) {k : Nat} (hk : c.fp k) : k < w.heap.size := ((hm.all c h.mem).2 k hk).1

theorem Upd.has {H H' : List Chunk} {c c' : Chunk} (h : Upd H c c' H') : Has H c := by
  induction h with
  | head => exact .head
  | tail _ ih => exact .tail ih

theorem Upd.mem' {H H' : List Chunk} {c c' : Chunk} (h : Upd H c c' H') : ∀ d ∈ H', d = c' ∨ d ∈ H := by
  induction h with
  | head => intro d hd; rcases List.mem_cons.1 hd with h | h; exact .inl h; exact .inr (List.mem_cons_of_mem _ h)
  | tail _ ih =>
    intro d hd
    rcases List.mem_cons.1 hd with h | h
    · exact .inr (h ▸ List.mem_cons_self)
    · rcases ih d h with h | h
      · exact .inl h
      · exact .inr (List.mem_cons_of_mem _ h)

/-- A chunk turns into another; the soup may take up its blocks, and new ones. -/
theorem MemS.upd {S S' : Soup} {κ : Ctx} {w w' : World} {H H' : List Chunk} {c c' : Chunk} (hm : MemS S κ H w) (hu : Upd H c c' H') (hfr : Frame c.fp w w')
    (hS : ∀ k, S k → S' k) (hS' : ∀ k, S' k → S k ∨ c.fp k ∨ w.heap.size ≤ k) (hlt : ∀ k, S' k → k < w'.heap.size) (hφ : c'.φ S' w')
    (hfp : ∀ k, c'.fp k → (c.fp k ∨ w.heap.size ≤ k) ∧ k < w'.heap.size ∧ ¬ S' k) : MemS S' κ H' w' := by
  have hcfp : ∀ k, c.fp k → k < w.heap.size ∧ ¬ S k ∧ (κ.F k ∨ κ.w0.heap.size ≤ k) := (hm.all c hu.has.mem).2
  have hsz0 := hm.frame.size
  have hother : ∀ d, d ∈ H → Disj c d → d.φ S' w' ∧ ∀ k, d.fp k → k < w'.heap.size ∧ ¬ S' k ∧ (κ.F k ∨ κ.w0.heap.size ≤ k) := fun d hd hdj => by
    obtain ⟨h1, h2⟩ := hm.all d hd
    refine ⟨d.mono S S' w' hS (d.dep S w w' (fun k hk => ?_) h1), fun k hk => ?_⟩
    · rcases hk with hk | hk
      · exact hfr.block k (h2 k hk).1 (fun hc => hdj k hc hk)
      · exact hfr.block k (hm.lt k hk) (fun hc => (hcfp k hc).2.1 hk)
    · obtain ⟨a, b, e⟩ := h2 k hk
      refine ⟨Nat.lt_of_lt_of_le a hfr.size, fun hs => ?_, e⟩
      rcases hS' k hs with h | h | h
      · exact b h
      · exact hdj k h hk
      · omega
  refine ⟨⟨hfr.os.trans hm.frame.os, hfr.tape.trans hm.frame.tape, hfr.output.trans hm.frame.output, Nat.le_trans hm.frame.size hfr.size, fun k hk hn => ?_⟩, fun k hk => hS k (hm.sub k hk), fun k hk => ?_, hlt, ?_, ?_⟩
  · rw [hfr.block k (Nat.lt_of_lt_of_le hk hsz0) (fun hc => ?_)]
    · exact hm.frame.block k hk hn
    · rcases (hcfp k hc).2.2 with h | h
      · exact hn h
      · omega
  · rcases hS' k hk with h | h | h
    · exact hm.sup k h
    · exact .inr (hcfp k h).2.2
    · exact .inr (.inr (by omega))
  · have hd := hm.disj
    have hnew : ∀ k, c'.fp k → k < w'.heap.size ∧ ¬ S' k ∧ (κ.F k ∨ κ.w0.heap.size ≤ k) := fun k hk => by
      obtain ⟨a, b, e⟩ := hfp k hk
      refine ⟨b, e, ?_⟩
      rcases a with a | a
      · exact (hcfp k a).2.2
      · exact .inr (by omega)
    clear hm hfp
    induction hu with
    | head =>
      intro d hd'
      rcases List.mem_cons.1 hd' with h | h
      · subst h; exact ⟨hφ, hnew⟩
      · exact hother d (List.mem_cons_of_mem _ h) ((List.pairwise_cons.1 hd).1 d h)
    | @tail c0 c0' d0 H0 H0' hu ih =>
      intro d hd'
      rcases List.mem_cons.1 hd' with h | h
      · subst h
        exact hother d List.mem_cons_self ((List.pairwise_cons.1 hd).1 _ hu.has.mem).symm
      · exact ih hfr hS' hφ hcfp (fun d hd hdj => hother d (List.mem_cons_of_mem _ hd) hdj) (List.pairwise_cons.1 hd).2 hnew d h
  · have hall := hm.all
    have hd := hm.disj
    clear hm hcfp hother hφ hS'
    induction hu with
    | head =>
      rw [List.pairwise_cons] at hd ⊢
      refine ⟨fun d hdm k hk hk' => ?_, hd.2⟩
      rcases (hfp k hk).1 with h | h
      · exact hd.1 d hdm k h hk'
      · have := ((hall d (List.mem_cons_of_mem _ hdm)).2 k hk').1; omega
    | @tail c0 c0' d0 H0 H0' hu ih =>
      rw [List.pairwise_cons] at hd ⊢
      refine ⟨fun d hdm k hk hk' => ?_, ih hfr hfp (fun c hc => hall c (List.mem_cons_of_mem _ hc)) hd.2⟩
      rcases hu.mem' d hdm with h | h
      · subst h
        rcases (hfp k hk').1 with h | h
        · exact hd.1 _ hu.has.mem k hk h
        · have := ((hall _ List.mem_cons_self).2 k hk).1; omega
      · exact hd.1 d h k hk hk'

/-- A chunk that is made anew; the soup may take up new blocks. -/
theorem MemS.add {S S' : Soup} {κ : Ctx} {w w' : World} {H : List Chunk} {c : Chunk} (hm : MemS S κ H w) (hfr : Frame (fun _ => False) w w')
    (hS : ∀ k, S k → S' k) (hS' : ∀ k, S' k → S k ∨ w.heap.size ≤ k) (hlt : ∀ k, S' k → k < w'.heap.size) (hφ : c.φ S' w')
    (hfp : ∀ k, c.fp k → w.heap.size ≤ k ∧ k < w'.heap.size ∧ ¬ S' k) : MemS S' κ (c :: H) w' := by
  let e : Chunk := ⟨fun _ => False, fun _ _ => True, fun _ _ _ _ _ => trivial, fun _ _ _ _ _ => trivial⟩
  have h0 : MemS S κ (e :: H) w := by
    refine ⟨hm.frame, hm.sub, hm.sup, hm.lt, fun d hd => ?_, ?_⟩
    · rcases List.mem_cons.1 hd with h | h
      · subst h; exact ⟨trivial, fun k hk => hk.elim⟩
      · exact hm.all d h
    · rw [List.pairwise_cons]
      exact ⟨fun d _ k hk => hk.elim, hm.disj⟩
  exact h0.upd (c := e) .head hfr hS (fun k hk => (hS' k hk).elim .inl (fun h => .inr (.inr h))) hlt hφ (fun k hk => ⟨.inr (hfp k hk).1, (hfp k hk).2⟩)

theorem MemS.keep {S : Soup} {κ : Ctx} {w w' : World} {H : List Chunk} (hm : MemS S κ H w) (hfr : Frame (fun _ => False) w w') : MemS S κ H w' := by
  have := hm.add (c := ⟨fun _ => False, fun _ _ => True, fun _ _ _ _ _ => trivial, fun _ _ _ _ _ => trivial⟩) (S' := S) hfr (fun _ h => h) (fun _ h => .inl h) (fun k hk => Nat.lt_of_lt_of_le (hm.lt k hk) hfr.size) trivial (fun k hk => hk.elim)
  exact ⟨this.frame, this.sub, this.sup, this.lt, fun c hc => this.all c (List.mem_cons_of_mem _ hc), (List.pairwise_cons.1 this.disj).2⟩

theorem MemS.sub' {S : Soup} {κ : Ctx} {w : World} {H H' : List Chunk} (hm : MemS S κ H w) (h : List.Sublist H' H) : MemS S κ H' w :=
  ⟨hm.frame, hm.sub, hm.sup, hm.lt, fun c hc => hm.all c (h.subset hc), hm.disj.sublist h⟩
theorem MemS.perm {S : Soup} {κ : Ctx} {w : World} {H H' : List Chunk} (hm : MemS S κ H w) (h : H.Perm H') : MemS S κ H' w :=
  ⟨hm.frame, hm.sub, hm.sup, hm.lt, fun c hc => hm.all c (h.mem_iff.2 hc), hm.disj.perm h (fun h => h.symm)⟩

theorem Mem.sub {κ : Ctx} {w : World} {H H' : List Chunk} (hm : Mem κ H w) (h : List.Sublist H' H) : Mem κ H' w := let ⟨S, hs⟩ := hm; ⟨S, hs.sub' h⟩
theorem Mem.perm {κ : Ctx} {w : World} {H H' : List Chunk} (hm : Mem κ H w) (h : H.Perm H') : Mem κ H' w := let ⟨S, hs⟩ := hm; ⟨S, hs.perm h⟩
theorem Mem.drawn {κ : Ctx} {w : World} {H : List Chunk} (hm : Mem κ H w) (n : Nat) : Mem κ H { w with drawn := n } :=
  let ⟨S, hs⟩ := hm; ⟨S, hs.keep ⟨rfl, rfl, rfl, Nat.le_refl _, fun _ _ _ => rfl⟩⟩

/-- A block of cells that the call owns. -/
def own (b : Nat) (T : TypeId) (l : List Value) : Chunk where
  fp := fun k => k = b
  φ := fun _ w => w.heap[b]? = some (.cells l.toArray T (0, 0))
  dep := fun S w w' h hw => by rw [h b (.inl rfl)]; exact hw
  mono := fun _ _ _ _ h => h

theorem Mem.start {w : World} {S : Soup} (hS : ∀ k, S k → k < w.heap.size) : Mem ⟨w, fun _ => False, S⟩ [] w :=
  ⟨S, ⟨Frame.refl _ _, fun _ h => h, fun _ h => .inl h, hS, fun c hc => by simp at hc, .nil⟩⟩

/-- The chunk of a block that has just been made. -/
theorem Mem.alloc {κ : Ctx} {w : World} {H : List Chunk} (hm : Mem κ H w) (l : List Value) (T : TypeId) : Mem κ (own w.heap.size T l :: H) (w.alloc (.cells l.toArray T)) := by
  obtain ⟨S, hs⟩ := hm
  refine ⟨S, hs.add ⟨rfl, rfl, rfl, by simp, fun k hk _ => Below.heap_alloc w _ k hk⟩ (fun _ h => h) (fun _ h => .inl h) (fun k hk => ?_) ?_ ?_⟩
  · have := hs.lt k hk
    show k < (w.heap.push _).size
    simp; omega
  · show (w.heap.push _)[w.heap.size]? = _
    simp
  · intro k hk
    have : k = w.heap.size := hk
    subst this
    exact ⟨Nat.le_refl _, by show w.heap.size < (w.heap.push _).size; simp, fun h => by have := hs.lt _ h; omega⟩

/-! ### The judgements -/

section
variable (P : Program) (n : Nat) (κ : Ctx)

/-- A continuation over environments and chunks, and one over acts and worlds. -/
def Sound (C : Env → List Chunk → Prop) (K : Act → World → Prop) : Prop := ∀ ρ H, C ρ H → ∀ w a, Mem κ H w → Ok n ρ a → K a w

def StepO (o : Oper) (ρ : Env) (H : List Chunk) (C : Env → List Chunk → Prop) : Prop :=
  ∀ (K : Act → World → Prop) (Q : Exit → Act → World → Prop), Sound n κ C K → ∀ w a, Mem κ H w → Ok n ρ a → o.wp P a w K Q

/-- A list of operations, in its order. -/
def OW (ops : Array Oper) (Q : Exit → Act → World → Prop) (l : List Oper) (ρ : Env) (H : List Chunk) : Prop :=
  ∀ w a, Mem κ H w → Ok n ρ a → wpList P ops Q l a w

def CW (c : Code) (Q : Exit → Act → World → Prop) (ρ : Env) (H : List Chunk) : Prop :=
  ∀ w a, Mem κ H w → Ok n ρ a → c.wp P Q a w

def KW (K : Act → World → Prop) (ρ : Env) (H : List Chunk) : Prop := ∀ w a, Mem κ H w → Ok n ρ a → K a w

/-- A region in whatever order; Hs: the chunks that stay. -/
def AW (ops : Array Oper) (K : Act → World → Prop) (Hs : List Chunk) (fuel : Nat) (listed : Array Bool) (ρ : Env) (H : List Chunk) : Prop :=
  ∀ w a, Mem κ H w → Mem κ Hs w → Ok n ρ a → wpAnyH P .any ops (fun e a w => e = .normal ∧ K a w) (fun w => Mem κ Hs w) fuel listed a w

/-- The operation only reads, and yields v wherever g holds. -/
def Ev (H : List Chunk) (ρ : Env) (g : Bool) (op : Op) (v : Value) : Prop :=
  ∀ w a dst ty pos aft gd, Mem κ H w → Ok n ρ a → g = true → (execOp a.eval ⟨dst, op, ty, pos, aft, gd⟩).run P w = .ok (.value v) w
end

section
variable {P : Program} {n : Nat} {κ : Ctx} {ops : Array Oper} {Q : Exit → Act → World → Prop} {rest : List Oper} {ρ : Env} {H : List Chunk}

theorem ow_nil (h : KW n κ (fun a w => Q .normal a w) ρ H) : OW P n κ ops Q [] ρ H := fun w a hm ho => h w a hm ho

theorem ow_cons {o : Oper} (h : StepO P n κ o ρ H (OW P n κ ops Q rest)) (hg : o.guard = none := by rfl) : OW P n κ ops Q (o :: rest) ρ H :=
  fun w a hm ho => wpList_plain hg fun K hK => h K Q (fun _ _ hc w a m o => hK _ _ (hc w a m o)) w a hm ho

theorem st_ev {op : Op} {v : Value} {d : Nat} {ty : TypeId} {pos : String} {aft : Array Edge} {gd : Option (Nat × Bool)} {C : Env → List Chunk → Prop}
    (h : Ev P n κ H ρ true op v) (k : C ((d, .v v) :: ρ) H) (hd : Nat.blt d n = true := by rfl) : StepO P n κ ⟨some d, op, ty, pos, aft, gd⟩ ρ H C := by
  intro K Q hs w a hm ho
  unfold Oper.wp
  rw [h w a _ _ _ _ _ hm ho rfl]
  exact hs _ _ k w _ hm (ho.put (by simpa [Nat.blt_eq] using hd) rfl)

theorem ow_ev {op : Op} {v : Value} {d : Nat} {ty : TypeId} {pos : String} {aft : Array Edge}
    (h : Ev P n κ H ρ true op v) (k : OW P n κ ops Q rest ((d, .v v) :: ρ) H) (hd : Nat.blt d n = true := by rfl) :
    OW P n κ ops Q (⟨some d, op, ty, pos, aft, none⟩ :: rest) ρ H := ow_cons (st_ev h k hd)

/-- The guard's value out of what is known of its slot. -/
def gval : EV → Bool → Option Bool
  | .v (.bool x), true => some x
  | .v (.bool x), false => some (!x)
  | .c b (.bool x), true => some (b && x)
  | .c b (.bool x), false => some (b && !x)
  | _, _ => none

def gof (ops : Array Oper) (ρ : Env) (j : Nat) (want : Bool) : Option Bool :=
  match ops[j]? with
  | some o => match o.dst with
    | some d => match look ρ d with
      | some e => gval e want
      | none => none
    | none => none
  | none => none

theorem wanted_of {o : Oper} {j : Nat} {want g : Bool} {a : Act} (ho : Ok n ρ a) (hg : gof ops ρ j want = some g) (hgd : o.guard = some (j, want)) :
    Region.wanted o (yielded ops a.tmps) = g := by
  unfold gof at hg
  split at hg
  · rename_i oj hoj
    split at hg
    · rename_i d hd
      split at hg
      · rename_i e he
        have hget := ho.get d e he
        simp only [Region.wanted, hgd, yielded, hoj, Option.bind_some, hd]
        unfold gval at hg
        split at hg
        · simp only [EV.ok] at hget
          simp only [hget]
          simp at hg; subst hg; simp
        · simp only [EV.ok] at hget
          simp only [hget]
          simp at hg; subst hg; cases g <;> rfl
        · simp only [EV.ok] at hget
          simp at hg; subst hg
          rename_i b x
          cases b <;> simp only [hget] <;> simp [undef]
        · simp only [EV.ok] at hget
          simp at hg; subst hg
          rename_i b x
          cases b <;> simp only [hget] <;> cases x <;> simp [undef]
        · cases hg
      · cases hg
    · cases hg
  · cases hg

theorem ow_evg {op : Op} {v : Value} {d j : Nat} {want g : Bool} {ty : TypeId} {pos : String} {aft : Array Edge}
    (hg : gof ops ρ j want = some g) (h : Ev P n κ H ρ g op v) (k : OW P n κ ops Q rest ((d, .c g v) :: ρ) H) (hd : Nat.blt d n = true := by rfl) :
    OW P n κ ops Q (⟨some d, op, ty, pos, aft, some (j, want)⟩ :: rest) ρ H := by
  intro w a hm ho
  have hw := wanted_of (o := ⟨some d, op, ty, pos, aft, some (j, want)⟩) ho hg rfl
  have hd' : d < n := by simpa [Nat.blt_eq] using hd
  refine wpList_step fun K hK => ?_
  rw [hw]
  cases g with
  | false => exact hK _ _ (k w _ hm (ho.put hd' rfl))
  | true =>
    show Oper.wp _ _ _ _ _ _
    unfold Oper.wp
    rw [h w a _ _ _ _ _ hm ho rfl]
    exact hK _ _ (k w _ hm (ho.put hd' rfl))

theorem ow_gsplit {op : Op} {dst : Option Tmp} {j : Nat} {want g : Bool} {ty : TypeId} {pos : String} {aft : Array Edge}
    (hg : gof ops ρ j want = some g) (h1 : g = true → OW P n κ ops Q (⟨dst, op, ty, pos, aft, none⟩ :: rest) ρ H)
    (h2 : g = false → ∀ w a, Mem κ H w → Ok n ρ a → wpList P ops Q rest (a.put dst undef) w) :
    OW P n κ ops Q (⟨dst, op, ty, pos, aft, some (j, want)⟩ :: rest) ρ H := by
  intro w a hm ho
  have hw := wanted_of (o := ⟨dst, op, ty, pos, aft, some (j, want)⟩) ho hg rfl
  cases g with
  | false =>
    unfold wpList; rw [hw]
    exact h2 rfl w a hm ho
  | true =>
    have := h1 rfl w a hm ho
    unfold wpList at this ⊢
    rw [hw]
    exact this

/-- The guard holds. -/
theorem ow_gtrue {op : Op} {dst : Option Tmp} {j : Nat} {want g : Bool} {ty : TypeId} {pos : String} {aft : Array Edge}
    (hg : gof ops ρ j want = some g) (hb : g = true) (h1 : OW P n κ ops Q (⟨dst, op, ty, pos, aft, none⟩ :: rest) ρ H) :
    OW P n κ ops Q (⟨dst, op, ty, pos, aft, some (j, want)⟩ :: rest) ρ H :=
  ow_gsplit hg (fun _ => h1) (fun h => by rw [hb] at h; cases h)

/-- The guard does not hold. -/
theorem ow_gskip {op : Op} {d : Nat} {j : Nat} {want g : Bool} {ty : TypeId} {pos : String} {aft : Array Edge}
    (hg : gof ops ρ j want = some g) (hb : g = false) (h1 : OW P n κ ops Q rest ((d, .v undef) :: ρ) H) (hd : Nat.blt d n = true := by rfl) :
    OW P n κ ops Q (⟨some d, op, ty, pos, aft, some (j, want)⟩ :: rest) ρ H :=
  ow_gsplit hg (fun h => by rw [hb] at h; cases h) (fun _ w a hm ho => h1 w _ hm (ho.put (by simpa [Nat.blt_eq] using hd) rfl))

theorem ow_gskip0 {op : Op} {j : Nat} {want g : Bool} {ty : TypeId} {pos : String} {aft : Array Edge}
    (hg : gof ops ρ j want = some g) (hb : g = false) (h1 : OW P n κ ops Q rest ρ H) :
    OW P n κ ops Q (⟨none, op, ty, pos, aft, some (j, want)⟩ :: rest) ρ H :=
  ow_gsplit hg (fun h => by rw [hb] at h; cases h) (fun _ w a hm ho => h1 w _ hm ho)

/-! ### Regions in whatever order -/

section any
variable {K : Act → World → Prop} {Hs : List Chunk} {fuel : Nat} {listed : Array Bool}

theorem aw_done (k : KW n κ K ρ H) (hr : Region.ready .any ops listed = [] := by kernel_rfl) : AW P n κ ops K Hs fuel listed ρ H :=
  fun w a hm _ ho => wpAnyH_done hr ⟨rfl, k w a hm ho⟩ fuel

/-- An operation that only reads the chunks that stay is taken first. -/
theorem aw_ev {op : Op} {v : Value} {d : Nat} {ty : TypeId} {pos : String} {aft : Array Edge} (i : Nat) (hi : ops[i]? = some ⟨some d, op, ty, pos, aft, none⟩)
    (h : Ev P n κ Hs ρ true op v) (k : AW P n κ ops K Hs fuel (listed.setIfInBounds i true) ((d, .v v) :: ρ) H)
    (hd : Nat.blt d n = true := by rfl)
    (h1 : Region.noSelect ops = true := by kernel_rfl) (h2 : Region.free .any ops listed i = true := by kernel_rfl)
    (h3 : (Region.ready .any ops listed).contains i = true := by kernel_rfl) : AW P n κ ops K Hs (fuel + 1) listed ρ H := by
  intro w a hm hms ho
  refine wpAnyH_take (v := v) hi h1 h2 h3 (fun c a w h => by cases h.1) (.inl ⟨rfl, fun w' hS => ?_⟩) hms ?_
  · exact h w' a _ _ _ _ _ hS ho rfl
  · exact k w _ hm hms (ho.put (by simpa [Nat.blt_eq] using hd) rfl)

theorem aw_evg {op : Op} {v : Value} {d j : Nat} {want g : Bool} {ty : TypeId} {pos : String} {aft : Array Edge} (i : Nat) (hi : ops[i]? = some ⟨some d, op, ty, pos, aft, some (j, want)⟩)
    (hg : gof ops ρ j want = some g)
    (h : Ev P n κ Hs ρ g op v) (k : AW P n κ ops K Hs fuel (listed.setIfInBounds i true) ((d, .c g v) :: ρ) H)
    (hd : Nat.blt d n = true := by rfl)
    (h1 : Region.noSelect ops = true := by kernel_rfl) (h2 : Region.free .any ops listed i = true := by kernel_rfl)
    (h3 : (Region.ready .any ops listed).contains i = true := by kernel_rfl) : AW P n κ ops K Hs (fuel + 1) listed ρ H := by
  intro w a hm hms ho
  have hw := wanted_of (o := ⟨some d, op, ty, pos, aft, some (j, want)⟩) ho hg rfl
  cases g with
  | true =>
    refine wpAnyH_take (v := v) hi h1 h2 h3 (fun c a w h => by cases h.1) (.inl ⟨hw, fun w' hS => ?_⟩) hms ?_
    · exact h w' a _ _ _ _ _ hS ho rfl
    · exact k w _ hm hms (ho.put (by simpa [Nat.blt_eq] using hd) rfl)
  | false =>
    refine wpAnyH_take (v := undef) hi h1 h2 h3 (fun c a w h => by cases h.1) (.inr ⟨hw, rfl⟩) hms ?_
    exact k w _ hm hms (ho.put (by simpa [Nat.blt_eq] using hd) rfl)

/-- A guarded operation, of whatever kind, whose guard does not hold. -/
theorem aw_gskip {op : Op} {d j : Nat} {want g : Bool} {ty : TypeId} {pos : String} {aft : Array Edge} (i : Nat) (hi : ops[i]? = some ⟨some d, op, ty, pos, aft, some (j, want)⟩)
    (hg : gof ops ρ j want = some g) (hb : g = false)
    (k : AW P n κ ops K Hs fuel (listed.setIfInBounds i true) ((d, .v undef) :: ρ) H)
    (hd : Nat.blt d n = true := by rfl)
    (h1 : Region.noSelect ops = true := by kernel_rfl) (h2 : Region.free .any ops listed i = true := by kernel_rfl)
    (h3 : (Region.ready .any ops listed).contains i = true := by kernel_rfl) : AW P n κ ops K Hs (fuel + 1) listed ρ H := by
  intro w a hm hms ho
  have hw := wanted_of (o := ⟨some d, op, ty, pos, aft, some (j, want)⟩) ho hg rfl
  subst hb
  refine wpAnyH_take (v := undef) hi h1 h2 h3 (fun c a w h => by cases h.1) (.inr ⟨hw, rfl⟩) hms ?_
  exact k w _ hm hms (ho.put (by simpa [Nat.blt_eq] using hd) rfl)

/-- One operation of whatever kind. -/
def One (P : Program) (n : Nat) (κ : Ctx) (ops : Array Oper) (K : Act → World → Prop) (Hs : List Chunk) (fuel : Nat) (listed : Array Bool) (ρ : Env) (H : List Chunk) (i : Nat) : Prop :=
  ∃ o, ops[i]? = some o ∧ o.guard = none ∧ StepO P n κ o ρ H (fun ρ' H' => (∀ w, Mem κ H' w → Mem κ Hs w) ∧ AW P n κ ops K Hs fuel (listed.setIfInBounds i true) ρ' H')

theorem One.wpOp {i : Nat} (h : One P n κ ops K Hs fuel listed ρ H i) {w : World} {a : Act} (hm : Mem κ H w) (ho : Ok n ρ a) :
    wpOp P ops (fun e a w => e = .normal ∧ K a w) i (fun a' w' => Mem κ Hs w' ∧ wpAnyH P .any ops (fun e a w => e = .normal ∧ K a w) (fun w => Mem κ Hs w) fuel (listed.setIfInBounds i true) a' w') a w := by
  obtain ⟨o, hi, hg, hs⟩ := h
  unfold Go.wpOp
  simp only [hi, Region.wanted, hg, if_true]
  refine .inl (hs _ _ ?_ w a hm ho)
  intro ρ' H' ⟨c1, c2⟩ w' a' hm' ho'
  exact ⟨c1 w' hm', c2 w' a' hm' (c1 w' hm') ho'⟩

theorem aw_one (i : Nat) {o : Oper} (hi : ops[i]? = some o) (h : StepO P n κ o ρ H (fun ρ' H' => (∀ w, Mem κ H' w → Mem κ Hs w) ∧ AW P n κ ops K Hs fuel (listed.setIfInBounds i true) ρ' H'))
    (hg : o.guard = none := by rfl)
    (hr : Region.ready .any ops listed = [i] := by kernel_rfl) : AW P n κ ops K Hs (fuel + 1) listed ρ H := by
  intro w a hm hms ho
  refine wpAnyH_all hr (by simp) fun j hj => ?_
  simp at hj; subst hj
  exact One.wpOp ⟨o, hi, hg, h⟩ hm ho

theorem aw_two (i j : Nat) (h1 : One P n κ ops K Hs fuel listed ρ H i) (h2 : One P n κ ops K Hs fuel listed ρ H j)
    (hr : Region.ready .any ops listed = [i, j] := by kernel_rfl) : AW P n κ ops K Hs (fuel + 1) listed ρ H := by
  intro w a hm hms ho
  refine wpAnyH_all hr (by simp) fun k hk => ?_
  simp at hk
  rcases hk with rfl | rfl
  · exact h1.wpOp hm ho
  · exact h2.wpOp hm ho

theorem aw_three (i j l : Nat) (h1 : One P n κ ops K Hs fuel listed ρ H i) (h2 : One P n κ ops K Hs fuel listed ρ H j) (h3 : One P n κ ops K Hs fuel listed ρ H l)
    (hr : Region.ready .any ops listed = [i, j, l] := by kernel_rfl) : AW P n κ ops K Hs (fuel + 1) listed ρ H := by
  intro w a hm hms ho
  refine wpAnyH_all hr (by simp) fun k hk => ?_
  simp at hk
  rcases hk with rfl | rfl | rfl
  · exact h1.wpOp hm ho
  · exact h2.wpOp hm ho
  · exact h3.wpOp hm ho
end any

/-! ### Code -/

theorem cw_seq {x y : Code} (h : ∀ K : Act → World → Prop, (∀ ρ H, CW P n κ y Q ρ H → KW n κ K ρ H) → CW P n κ x (Exit.then K Q) ρ H) : CW P n κ (.seq x y) Q ρ H :=
  fun w a hm ho => wp_seq (h (y.wp P Q) (fun _ _ hk => hk) w a hm ho)

theorem cw_skip (h : KW n κ (fun a w => Q .normal a w) ρ H) : CW P n κ .skip Q ρ H := fun w a hm ho => wp_skip (h w a hm ho)
theorem cw_label {l : Nat} (h : KW n κ (fun a w => Q .normal a w) ρ H) : CW P n κ (.label l) Q ρ H := fun w a hm ho => wp_label (h w a hm ho)
theorem cw_ret (h : KW n κ (fun a w => Q .ret a w) ρ H) : CW P n κ .ret Q ρ H := fun w a hm ho => wp_ret (h w a hm ho)
theorem cw_exit {id : Nat} (h : KW n κ (fun a w => Q (.exit id) a w) ρ H) : CW P n κ (.exit id) Q ρ H := fun w a hm ho => wp_exit (h w a hm ho)
theorem cw_block {id : Nat} {c : Code} (h : CW P n κ c (Exit.inBlock id Q) ρ H) : CW P n κ (.block id c) Q ρ H := fun w a hm ho => wp_block (h w a hm ho)

theorem cw_region {id : Nat} {l : List Oper} (h : OW P n κ l.toArray Q l ρ H) : CW P n κ (.region id l.toArray false) Q ρ H :=
  fun w a hm ho => wp_region_lit (h w a hm ho)

theorem cw_region_any {id : Nat} {ops : Array Oper} (Hs : List Chunk) (hsub : List.Sublist Hs H)
    (h : AW P n κ ops (fun a w => Q .normal a w) Hs ops.size (Array.replicate ops.size false) ρ H) (hm : P.follows .mixedOrders = true := by kernel_rfl) :
    CW P n κ (.region id ops true) Q ρ H := by
  intro w a hmm ho
  have hm' := hmm.drawn (w.drawn + 1)
  have := wp_region_held (id := id) (P := P) (Q := fun e a w => e = .normal ∧ Q .normal a w) (S := fun w => Mem κ Hs w) hm (h _ a hm' (hm'.sub hsub) ho)
  exact wp_mono this (fun e a w hq => by obtain ⟨rfl, hk⟩ := hq; exact hk)

theorem cw_cond {c : Operand} {x y : Code} {t : Bool} (hc : evc ρ c = some (.v (.bool t))) (ht : t = true → CW P n κ x Q ρ H) (hf : t = false → CW P n κ y Q ρ H) :
    CW P n κ (.cond c x y) Q ρ H :=
  fun w a hm ho => wp_cond_split (Gets.eval (.plain hc) ho rfl) (fun h => ht h w a hm ho) (fun h => hf h w a hm ho)

theorem cw_cond_true {c : Operand} {x y : Code} {t : Bool} (hc : evc ρ c = some (.v (.bool t))) (hb : t = true) (ht : CW P n κ x Q ρ H) : CW P n κ (.cond c x y) Q ρ H :=
  cw_cond hc (fun _ => ht) (fun h => by rw [hb] at h; cases h)
theorem cw_cond_false {c : Operand} {x y : Code} {t : Bool} (hc : evc ρ c = some (.v (.bool t))) (hb : t = false) (hf : CW P n κ y Q ρ H) : CW P n κ (.cond c x y) Q ρ H :=
  cw_cond hc (fun h => by rw [hb] at h; cases h) (fun _ => hf)

/-- The branch by a proposition. -/
theorem cw_if {c : Operand} {x y : Code} {p : Prop} [Decidable p] (hc : evc ρ c = some (.v (.bool (decide p)))) (ht : p → CW P n κ x Q ρ H) (hf : ¬ p → CW P n κ y Q ρ H) :
    CW P n κ (.cond c x y) Q ρ H := cw_cond hc (fun h => ht (of_decide_eq_true h)) (fun h => hf (of_decide_eq_false h))

/-- A loop: g is the ghost of a round; what the loop's head knows is env g and mem g, under R g. -/
theorem cw_loop {γ : Type} {body : Code} (env : γ → Env) (mem : γ → List Chunk) (R : γ → Prop) (μ : γ → Nat) (g0 : γ) (hR : R g0) (hs : SubL (env g0) ρ)
    (hH : ∀ w, Mem κ H w → Mem κ (mem g0) w)
    (round : ∀ g, R g → ∀ K : Act → World → Prop,
      (∀ g' ρ' H', R g' → μ g' < μ g → SubL (env g') ρ' → (∀ w, Mem κ H' w → Mem κ (mem g') w) → KW n κ K ρ' H') → CW P n κ body (Exit.then K Q) (env g) (mem g)) :
    CW P n κ (.loop body) Q ρ H := by
  intro w a hm ho
  refine wp_loop_ghost (fun m a w => ∃ g, R g ∧ Mem κ (mem g) w ∧ Ok n (env g) a ∧ μ g = m) (μ g0) ⟨g0, hR, hH w hm, ho.sub hs.sub, rfl⟩ ?_
  rintro m a w ⟨g, hRg, hmg, hog, rfl⟩
  refine wp_mono (round g hRg (fun a' w' => ∃ g', R g' ∧ Mem κ (mem g') w' ∧ Ok n (env g') a' ∧ μ g' < μ g) ?_ w a hmg hog) ?_
  · intro g' ρ' H' hR' hlt hsub himp w' a' hm' ho'
    exact ⟨g', hR', himp w' hm', ho'.sub hsub.sub, hlt⟩
  · intro e a' w' h
    cases e with
    | normal => obtain ⟨g', h1, h2, h3, h4⟩ := h; exact ⟨μ g', h4, g', h1, h2, h3, rfl⟩
    | _ => exact h
end

/-! ### Entry and return -/

def argsEnv : Nat → List Value → Env
  | _, [] => []
  | i, v :: r => (i, .v v) :: argsEnv (i + 1) r

theorem argsEnv_get : ∀ (l : List Value) (i t : Nat) (e : EV), look (argsEnv i l) t = some e → ∃ v, e = .v v ∧ i ≤ t ∧ l[t - i]? = some v
  | [], _, _, _, h => by simp [argsEnv, look] at h
  | x :: r, i, t, e, h => by
    simp only [argsEnv, look] at h
    by_cases hb : i = t
    · subst hb
      simp at h
      exact ⟨x, h.symm, Nat.le_refl _, by simp⟩
    · have hb' : Nat.beq i t = false := beq_ne hb
      rw [hb'] at h
      obtain ⟨v, h1, h2, h3⟩ := argsEnv_get r (i + 1) t e h
      refine ⟨v, h1, by omega, ?_⟩
      have : t - i = (t - (i + 1)) + 1 := by omega
      rw [this]
      simpa using h3

theorem calls_cw {P : Program} {f : FuncId} {fn : Func} {c : Code} {args : List Value} {κ : Ctx} {R : Ending → World → Prop} {H : List Chunk} {w : World}
    (hf : P.funcs[f]? = some fn) (hb : fn.body = some c) (hm : Mem κ H w) (hl : Nat.ble args.length fn.ntmps = true)
    (h : CW P fn.ntmps κ c (bodyPost P fn R) (argsEnv 0 args) H) : Calls P f args.toArray w R := by
  refine calls_of_wp hf hb (h w _ hm ⟨?_, rfl, ?_⟩)
  · have : args.length ≤ fn.ntmps := by simpa [Nat.ble_eq] using hl
    simp; omega
  · intro t e he
    obtain ⟨v, rfl, _, hv⟩ := argsEnv_get args 0 t e he
    simp only [Nat.sub_zero] at hv
    have hlt : t < args.length := (List.getElem?_eq_some_iff.1 hv).1
    show _ = some v
    rw [Array.getElem?_append_left (by simpa using hlt)]
    simpa using hv

section
variable {P : Program} {fn : Func} {R : Ending → World → Prop} {n : Nat} {κ : Ctx} {ρ : Env} {H : List Chunk}

theorem kw_ret1 {t : Tmp} {v : Value} (hr : fn.results = #[.tmp t]) (hv : look ρ t = some (.v v)) (h : ∀ w, Mem κ H w → R (.returned v) w) :
    KW n κ (fun a w => bodyPost P fn R .ret a w) ρ H := fun w a hm ho => by
  have := Gets.eval (x := .tmp t) (.plain hv) ho rfl
  simp only [Act.eval] at this
  exact ⟨ho.nodef, v, by rw [results_tmp hr]; rw [this], h w hm⟩

theorem kw_end1 {t : Tmp} {v : Value} (hr : fn.results = #[.tmp t]) (hv : look ρ t = some (.v v)) (h : ∀ w, Mem κ H w → R (.returned v) w) :
    KW n κ (fun a w => bodyPost P fn R .normal a w) ρ H := kw_ret1 hr hv h

theorem kw_ret2 {t u : Tmp} {v x : Value} (hr : fn.results = #[.tmp t, .tmp u]) (hv : look ρ t = some (.v v)) (hx : look ρ u = some (.v x)) (h : ∀ w, Mem κ H w → R (.returned (.tuple #[v, x])) w) :
    KW n κ (fun a w => bodyPost P fn R .ret a w) ρ H := fun w a hm ho => by
  have h1 := Gets.eval (x := .tmp t) (.plain hv) ho rfl
  have h2 := Gets.eval (x := .tmp u) (.plain hx) ho rfl
  simp only [Act.eval] at h1 h2
  exact ⟨ho.nodef, .tuple #[v, x], by rw [results_tmp2 hr]; rw [h1, h2], h w hm⟩

theorem kw_ret0 (hr : fn.results = #[]) (h : ∀ w, Mem κ H w → R (.returned (.tuple #[])) w) : KW n κ (fun a w => bodyPost P fn R .ret a w) ρ H :=
  fun w a hm ho => ⟨ho.nodef, .tuple #[], by rw [results_none hr], h w hm⟩
theorem kw_end0 (hr : fn.results = #[]) (h : ∀ w, Mem κ H w → R (.returned (.tuple #[])) w) : KW n κ (fun a w => bodyPost P fn R .normal a w) ρ H := kw_ret0 hr h
end

end Go.Dc

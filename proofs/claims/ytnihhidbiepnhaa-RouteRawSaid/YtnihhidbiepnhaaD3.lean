/- Engine of the decompiler, part 3: typed data in memory: strings, slices, structs. -/
import Derived.Test.YtnihhidbiepnhaaD2
import Derived.Laws.OwnMore
import Derived.Laws.MakeOwn
namespace Go.Dc
open Go.RowKit

/-! ### Strings -/

structure Str where
  l : List UInt8
  deriving DecidableEq, Inhabited
def Str.ba (s : Str) : ByteArray := ⟨s.l.toArray⟩
def Str.of (s : ByteArray) : Str := ⟨s.data.toList⟩
theorem Str.ba_of (s : ByteArray) : (Str.of s).ba = s := by
  apply ByteArray.ext
  simp [Str.of, Str.ba]
theorem Str.ba_inj {s t : Str} (h : s.ba = t.ba) : s = t := by
  obtain ⟨s⟩ := s
  obtain ⟨t⟩ := t
  have := congrArg ByteArray.data h
  simp [Str.ba] at this
  rw [this]
theorem Str.ba_size (s : Str) : s.ba.size = s.l.length := by simp [Str.ba, ByteArray.size]

/-- The byte at a place, as Go's number; none outside. -/
def byteAt (s : Str) (i : Int) : Option Int := if 0 ≤ i then (s.l[i.toNat]?).map (fun b => (b.toNat : Int)) else none
/-- The element at a place; none outside. -/
def idx {α : Type} (xs : List α) (i : Int) : Option α := if 0 ≤ i then xs[i.toNat]? else none

theorem idx_some {α : Type} {xs : List α} {i : Int} {x : α} (h : idx xs i = some x) : 0 ≤ i ∧ i < xs.length ∧ xs[i.toNat]? = some x := by
  unfold idx at h
  split at h
  · rename_i h0
    have := (List.getElem?_eq_some_iff.1 h).1
    exact ⟨h0, by omega, h⟩
  · cases h
theorem byteAt_some {s : Str} {i b : Int} (h : byteAt s i = some b) : 0 ≤ i ∧ i < s.l.length ∧ ∃ u, s.l[i.toNat]? = some u ∧ b = (u.toNat : Int) := by
  unfold byteAt at h
  split at h
  · rename_i h0
    cases hu : s.l[i.toNat]? with
    | none => rw [hu] at h; cases h
    | some u =>
      rw [hu] at h
      have := (List.getElem?_eq_some_iff.1 hu).1
      simp at h
      exact ⟨h0, by omega, u, rfl, h.symm⟩
  · cases h

/-- s[a:b]; none where Go would panic. -/
def strSub (s : Str) (a b : Int) : Option Str := if 0 ≤ a ∧ a ≤ b ∧ b ≤ s.l.length then some ⟨(s.l.take b.toNat).drop a.toNat⟩ else none
def strCat (s t : Str) : Option Str := if s.l.length + t.l.length ≤ 140737488355328 then some ⟨s.l ++ t.l⟩ else none

/-! ### Option steps -/

theorem bind_some {α β : Type} {o : Option α} {K : α → Option β} {r : β} (h : o.bind K = some r) : ∃ x, o = some x ∧ K x = some r := by
  cases o with
  | none => cases h
  | some x => exact ⟨x, rfl, h⟩
/-- Go on where c holds. -/
def chk {α : Type} (c : Bool) (k : Option α) : Option α := match c with | true => k | false => none
theorem chk_some {α : Type} {c : Bool} {k : Option α} {r : α} (h : chk c k = some r) : c = true ∧ k = some r := by
  cases c with
  | true => exact ⟨rfl, h⟩
  | false => cases h
theorem ite_t {α : Type} {b : Bool} {x y : α} (h : b = true) : (if b then x else y) = x := by simp [h]
theorem ite_f {α : Type} {b : Bool} {x y : α} (h : b = false) : (if b then x else y) = y := by simp [h]
/-- A way whose continuation is named. -/
def joinpt {κ β : Type} (k : κ) (f : κ → β) : β := f k
theorem join_open {κ β : Type} {k : κ} {f : κ → Option β} {r : β} (h : joinpt k f = some r) : ∃ k', k' = k ∧ f k' = some r := ⟨k, rfl, h⟩
/-- Under a guard. -/
def whn {α : Type} (g : Bool) (d : α) (o : Option α) : Option α := match g with | true => o | false => some d
theorem whn_some {α : Type} {g : Bool} {d : α} {o : Option α} {x : α} (h : whn g d o = some x) (hg : g = true) : o = some x := by subst hg; exact h
def i64b (x : Int) : Bool := decide (-9223372036854775808 ≤ x ∧ x ≤ 9223372036854775807)
theorem i64b_I64 {x : Int} (h : i64b x = true) : I64 x := by simpa [i64b, I64] using h

/-! ### Typed data -/

/-- A type of data: how a value lies in cells (given what is not determined by it: addresses, capacities), and what memory then holds. -/
class GoRep (α : Type) where
  R : Type
  n : Nat
  bytes : Nat
  enc : R → α → List Value
  ok : Soup → World → R → α → Prop
  npos : 0 < n
  bpos : 0 < bytes
  len : ∀ r x, (enc r x).length = n
  one : ∀ r x, ∀ v ∈ enc r x, v.oneCell' = true
  mono : ∀ (S S' : Soup) (w : World) r x, (∀ k, S k → S' k) → ok S w r x → ok S' w r x
  dep : ∀ (S : Soup) (w w' : World) r x, (∀ k, S k → w'.heap[k]? = w.heap[k]?) → ok S w r x → ok S w' r x

open GoRep

instance : GoRep Int where
  R := Unit
  n := 1
  bytes := 8
  enc := fun _ x => [.int .i64 x]
  ok := fun _ _ _ _ => True
  npos := Nat.one_pos
  bpos := by omega
  len := fun _ _ => rfl
  one := fun _ _ v hv => by simp at hv; subst hv; rfl
  mono := fun _ _ _ _ _ _ h => h
  dep := fun _ _ _ _ _ _ h => h
instance : GoRep UInt8 where
  R := Unit
  n := 1
  bytes := 1
  enc := fun _ x => [.int .u8 (x.toNat : Int)]
  ok := fun _ _ _ _ => True
  npos := Nat.one_pos
  bpos := by omega
  len := fun _ _ => rfl
  one := fun _ _ v hv => by simp at hv; subst hv; rfl
  mono := fun _ _ _ _ _ _ h => h
  dep := fun _ _ _ _ _ _ h => h
instance : GoRep Bool where
  R := Unit
  n := 1
  bytes := 1
  enc := fun _ x => [.bool x]
  ok := fun _ _ _ _ => True
  npos := Nat.one_pos
  bpos := by omega
  len := fun _ _ => rfl
  one := fun _ _ v hv => by simp at hv; subst hv; rfl
  mono := fun _ _ _ _ _ _ h => h
  dep := fun _ _ _ _ _ _ h => h
instance : GoRep Str where
  R := Unit
  n := 1
  bytes := 16
  enc := fun _ x => [.string x.ba]
  ok := fun _ _ _ _ => True
  npos := Nat.one_pos
  bpos := by omega
  len := fun _ _ => rfl
  one := fun _ _ v hv => by simp at hv; subst hv; rfl
  mono := fun _ _ _ _ _ _ h => h
  dep := fun _ _ _ _ _ _ h => h

def sb : Option Addr → Nat
  | some p => p.block
  | none => 0
def so : Option Addr → Nat
  | some p => p.off
  | none => 0

/-- A slice's address and capacity, and what is open of its elements. -/
structure SR (ρ : Type) where
  a : Option Addr
  cap : Nat
  es : Nat → ρ

def hdr {ρ α : Type} (r : SR ρ) (xs : List α) : Value := .slice r.a xs.length r.cap

/-- The list xs lies behind the slice, in a block of the soup. -/
def SlOk {α : Type} [GoRep α] (S : Soup) (w : World) (r : SR (R α)) (xs : List α) : Prop :=
  xs.length ≤ r.cap ∧ xs.length * GoRep.bytes α ≤ 140737488355328 ∧
  ∀ i x, xs[i]? = some x → r.a = some ⟨sb r.a, so r.a, none⟩ ∧ S (sb r.a) ∧ (∀ j v, (enc (r.es i) x)[j]? = some v → w.cell? ⟨sb r.a, so r.a + (i * n α + j), none⟩ = some v) ∧ ok S w (r.es i) x

theorem SlOk.mono {α : Type} [GoRep α] {S S' : Soup} {w : World} {r : SR (R α)} {xs : List α} (hs : ∀ k, S k → S' k) (h : SlOk S w r xs) : SlOk S' w r xs :=
  ⟨h.1, h.2.1, fun i x hx => by obtain ⟨h1, h2, h3, h4⟩ := h.2.2 i x hx; exact ⟨h1, hs _ h2, h3, GoRep.mono S S' w _ _ hs h4⟩⟩
theorem SlOk.dep {α : Type} [GoRep α] {S : Soup} {w w' : World} {r : SR (R α)} {xs : List α} (hs : ∀ k, S k → w'.heap[k]? = w.heap[k]?) (h : SlOk S w r xs) : SlOk S w' r xs :=
  ⟨h.1, h.2.1, fun i x hx => by
    obtain ⟨h1, h2, h3, h4⟩ := h.2.2 i x hx
    exact ⟨h1, h2, fun j v hv => by rw [World.cell?_of_block (w := w) (hs _ h2)]; exact h3 j v hv, GoRep.dep S w w' _ _ hs h4⟩⟩

instance {α : Type} [GoRep α] : GoRep (List α) where
  R := SR (R α)
  n := 1
  bytes := 24
  enc := fun r xs => [.slice r.a xs.length r.cap]
  ok := fun S w r xs => SlOk S w r xs
  npos := Nat.one_pos
  bpos := by omega
  len := fun _ _ => rfl
  one := fun _ _ v hv => by simp at hv; subst hv; rfl
  mono := fun _ _ _ _ _ hs h => h.mono hs
  dep := fun _ _ _ _ _ hs h => h.dep hs

/-- What is known of immutable data. -/
def imm {α : Type} [GoRep α] (r : R α) (x : α) : Chunk where
  fp := fun _ => False
  φ := fun S w => ok S w r x
  dep := fun S w w' h hw => GoRep.dep S w w' r x (fun k hk => h k (.inr hk)) hw
  mono := fun S S' w h hw => GoRep.mono S S' w r x h hw

/-- A slice of the call's own: its block is nobody else's. -/
def trow {α : Type} [GoRep α] (e : TypeId) (r : SR (R α)) (xs : List α) : Chunk where
  fp := fun k => ∃ p, r.a = some p ∧ k = p.block
  φ := fun S w => xs.length * GoRep.bytes α ≤ 140737488355328 ∧ ((r.a = none ∧ xs = [] ∧ r.cap = 0) ∨
    ∃ g o cur, r.a = some ⟨g, o, none⟩ ∧ w.heap[g]? = some (.cells cur e (0, 0)) ∧ xs.length ≤ r.cap ∧ o + r.cap * n α ≤ cur.size ∧
      ∀ i x, xs[i]? = some x → (∀ j v, (enc (r.es i) x)[j]? = some v → cur[o + (i * n α + j)]? = some v) ∧ ok S w (r.es i) x)
  dep := fun S w w' h hw => by
    refine ⟨hw.1, ?_⟩
    rcases hw.2 with h2 | ⟨g, o, cur, ha, hg, h3, h4, h5⟩
    · exact .inl h2
    · refine .inr ⟨g, o, cur, ha, ?_, h3, h4, fun i x hx => ⟨(h5 i x hx).1, GoRep.dep S w w' _ _ (fun k hk => h k (.inr hk)) (h5 i x hx).2⟩⟩
      rw [h g (.inl ⟨_, ha, rfl⟩)]
      exact hg
  mono := fun S S' w h hw => by
    refine ⟨hw.1, ?_⟩
    rcases hw.2 with h2 | ⟨g, o, cur, ha, hg, h3, h4, h5⟩
    · exact .inl h2
    · exact .inr ⟨g, o, cur, ha, hg, h3, h4, fun i x hx => ⟨(h5 i x hx).1, GoRep.mono S S' w _ _ h (h5 i x hx).2⟩⟩

/-- A slice of the call's own, read. -/
theorem trow_slOk {α : Type} [GoRep α] {e : TypeId} {r : SR (R α)} {xs : List α} {S : Soup} {w : World} (h : (trow e r xs).φ S w) : SlOk (fun k => S k ∨ (trow e r xs).fp k) w r xs := by
  rcases h.2 with ⟨h1, h2, h3⟩ | ⟨g, o, cur, ha, hg, h3, h4, h5⟩
  · subst h2
    exact ⟨Nat.zero_le _, by simp, fun i x hx => by simp at hx⟩
  · refine ⟨h3, h.1, fun i x hx => ⟨by rw [ha]; rfl, .inr ⟨_, ha, by rw [ha]; rfl⟩, fun j v hv => ?_, GoRep.mono S _ w _ _ (fun _ h => .inl h) (h5 i x hx).2⟩⟩
    rw [ha]
    show w.cell? ⟨g, o + (i * n α + j), none⟩ = some v
    simp [World.cell?, hg, (h5 i x hx).1 j v hv]

/-! ### What may be read -/

/-- In every world of this state x lies there as r says, below the heap's end. -/
def Kn {α : Type} [GoRep α] (κ : Ctx) (H : List Chunk) (r : R α) (x : α) : Prop :=
  ∀ S w, MemS S κ H w → ∃ L : Soup, (∀ k, L k → ∃ c ∈ H, c.fp k) ∧ ok (fun k => S k ∨ L k) w r x

section
variable {κ : Ctx} {H : List Chunk}
theorem Kn.imm {α : Type} [GoRep α] {r : R α} {x : α} (h : Has H (Dc.imm r x)) : Kn κ H r x :=
  fun S w hm => ⟨fun _ => False, fun _ h => h.elim, GoRep.mono S _ w r x (fun _ h => .inl h) (h.φ hm)⟩
theorem Kn.trow {α : Type} [GoRep α] {e : TypeId} {r : SR (R α)} {xs : List α} (h : Has H (Dc.trow e r xs)) : Kn κ H (α := List α) r xs :=
  fun _ _ hm => ⟨(Dc.trow e r xs).fp, fun _ hk => ⟨_, h.mem, hk⟩, trow_slOk (h.φ hm)⟩
theorem Kn.map {α β : Type} [GoRep α] [GoRep β] {r : R α} {x : α} {r' : R β} {x' : β} (h : Kn κ H r x) (hp : ∀ S w, ok S w r x → ok S w r' x') : Kn κ H r' x' :=
  fun S w hm => let ⟨L, h1, h2⟩ := h S w hm; ⟨L, h1, hp _ _ h2⟩
theorem Kn.elem {α : Type} [GoRep α] {r : SR (R α)} {xs : List α} {i : Int} {x : α} (h : Kn κ H (α := List α) r xs) (hi : idx xs i = some x) : Kn κ H (r.es i.toNat) x :=
  h.map fun _ _ hs => (hs.2.2 i.toNat x (idx_some hi).2.2).2.2.2
theorem Kn.flat {α : Type} [GoRep α] {r : R α} {x : α} (h : ∀ S w, ok S w r x) : Kn κ H r x := fun _ w _ => ⟨fun _ => False, fun _ h => h.elim, h _ w⟩
end

section
variable {P : Program} {n : Nat} {κ : Ctx} {ρ : Env} {H : List Chunk} {g : Bool}

theorem Kn.len {α : Type} [GoRep α] {r : SR (R α)} {xs : List α} (h : Kn κ H (α := List α) r xs) {w : World} (hm : Mem κ H w) : xs.length ≤ 140737488355328 := by
  obtain ⟨S, hs⟩ := hm
  obtain ⟨L, _, h2⟩ := h S w hs
  have := h2.2.1
  have hb := GoRep.bpos (α := α)
  calc xs.length = xs.length * 1 := by omega
    _ ≤ xs.length * GoRep.bytes α := Nat.mul_le_mul_left _ hb
    _ ≤ _ := this

/-- The address of an element of a slice. -/
theorem ev_idx {α : Type} [GoRep α] {x y : Operand} {t : Nat} {k : IntKind} {i : Int} {r : SR (R α)} {xs : List α} {m : Nat} (sz : Nat) (hk : Kn κ H (α := List α) r xs) (hi : g = true → 0 ≤ i ∧ i < xs.length)
    (hx : Gets ρ g x (.slice r.a m r.cap) := by first | exact .plain rfl | exact .cond rfl id | exact .cond rfl gl) (hy : Gets ρ g y (.int k i) := by first | exact .plain rfl | exact .cond rfl id | exact .cond rfl gl)
    (hs : elemSize P t = some sz := by kernel_rfl) (hml : m = xs.length := by first | rfl | simp only [List.length_set, List.length_append, List.length_replicate]) :
    Ev P n κ H ρ g (.indexAddr t x y) (.pointer (some ⟨sb r.a, so r.a + i.toNat * sz, none⟩)) := by
  subst hml
  intro w a dst ty pos aft gd hm ho hg
  have hb := hi hg
  have ha : r.a = some ⟨sb r.a, so r.a, none⟩ := by
    obtain ⟨S, hms⟩ := hm
    obtain ⟨L, _, h2⟩ := hk S w hms
    have hlt : i.toNat < xs.length := by omega
    exact (h2.2.2 i.toNat xs[i.toNat] (by simp [hlt])).1
  have e1 := hx.eval ho hg
  rw [ha] at e1
  have e2 := hy.eval ho hg
  unfold elemSize at hs
  split at hs
  · rename_i el hu
    cases hti : P.info? el with
    | none => rw [hti] at hs; cases hs
    | some ti =>
      rw [hti] at hs
      simp at hs
      subst hs
      show (Instr.indexAt t (a.eval x) (a.eval y) >>= fun v => pure (Next.value v)).run P w = _
      rw [e1, e2]
      refine run_value ?_
      unfold Instr.indexAt
      show (underlying t >>= _).run P w = _
      rw [run_bind_ok (run_under hu w)]
      show (underlying t >>= _).run P w = _
      rw [run_bind_ok (run_under hu w)]
      simp only [hb, and_self, if_true]
      rw [run_bind_ok (run_size hti w)]
      show Result.ok (Value.pointer (some (Addr.add ⟨sb r.a, so r.a, none⟩ (i.toNat * ti.size)))) w = _
      rw [Addr.add_lit]
  · cases hs

/-- Cells of an element. -/
theorem Kn.cell {α : Type} [GoRep α] {r : SR (R α)} {xs : List α} {i : Nat} {x : α} {j : Nat} {v : Value} (h : Kn κ H (α := List α) r xs) (hx : xs[i]? = some x) (hv : (enc (r.es i) x)[j]? = some v) {w : World} (hm : Mem κ H w) :
    w.cell? ⟨sb r.a, so r.a + (i * GoRep.n α + j), none⟩ = some v := by
  obtain ⟨S, hs⟩ := hm
  obtain ⟨L, _, h2⟩ := h S w hs
  exact (h2.2.2 i x hx).2.2.1 j v hv

/-- One cell of an element is read. -/
theorem ev_ld {α : Type} [GoRep α] {x : Operand} {t : TypeId} {r : SR (R α)} {xs : List α} {i : Int} {y : α} {o : Nat} {v : Value} (j : Nat) (hk : Kn κ H (α := List α) r xs) (hi : g = true → idx xs i = some y)
    (hv : (enc (r.es i.toNat) y)[j]? = some v := by rfl) (hx : Gets ρ g x (.pointer (some ⟨sb r.a, o, none⟩)) := by first | exact .plain rfl | exact .cond rfl id | exact .cond rfl gl)
    (ho' : o = so r.a + (i.toNat * GoRep.n α + j) := by first | rfl | (show _ = _ + (_ * (_ : Nat) + _); omega))
    (ht : oneT P t = true := by kernel_rfl) : Ev P n κ H ρ g (.load t x) v :=
  ev_load_cell hx ht fun hg w hm => by rw [ho']; exact hk.cell (idx_some (hi hg)).2.2 hv hm

/-- A struct out of an element's cells, from j on. -/
theorem ev_lds {α : Type} [GoRep α] {x : Operand} {t m : Nat} {r : SR (R α)} {xs : List α} {i : Int} {y : α} {o : Nat} {l : List Value} (j : Nat) (hk : Kn κ H (α := List α) r xs) (hi : g = true → idx xs i = some y)
    (hv : ((enc (r.es i.toNat) y).drop j).take m = l := by rfl) (hl : l.length = m := by rfl) (hx : Gets ρ g x (.pointer (some ⟨sb r.a, o, none⟩)) := by first | exact .plain rfl | exact .cond rfl id | exact .cond rfl gl)
    (ho' : o = so r.a + (i.toNat * GoRep.n α + j) := by first | rfl | (show _ = _ + (_ * (_ : Nat) + _); omega))
    (ht : aggT P t = some m := by kernel_rfl) : Ev P n κ H ρ g (.load t x) (.agg l.toArray) :=
  ev_load_agg hx ht hl fun hg w hm q u hu => by
    rw [Addr.add_lit, ho']
    have h1 : (enc (r.es i.toNat) y)[j + q]? = some u := by
      rw [← hv] at hu
      rw [List.getElem?_take] at hu
      split at hu
      · rwa [List.getElem?_drop] at hu
      · cases hu
    have := hk.cell (idx_some (hi hg)).2.2 h1 hm
    rw [show so r.a + (i.toNat * GoRep.n α + j) + q = so r.a + (i.toNat * GoRep.n α + (j + q)) by omega]
    exact this
end
end Go.Dc

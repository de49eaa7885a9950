/- Engine of the decompiler, part 10: a slice of slices of the call's own, each of which grows by itself; jumps forward. -/
import Derived.Test.YtnihhidbiepnhaaD9
import Derived.ScopeJumps
namespace Go.Dc
open Go.RowKit GoRep

def SR.upd {ρ : Type} (r : SR (SR ρ)) (i : Nat) (q : SR ρ) : SR (SR ρ) := ⟨r.a, r.cap, fun j => if j = i then q else r.es j⟩

/-- A slice of the call's own whose elements are slices of its own too: those of 'on' belong to this chunk. -/
def rows2 {β : Type} [GoRep β] (on : Nat → Prop) (e e2 : TypeId) (r : SR (SR (R β))) (xs : List (List β)) : Chunk where
  fp := fun k => (∃ p, r.a = some p ∧ k = p.block) ∨ ∃ i x p, xs[i]? = some x ∧ on i ∧ (r.es i).a = some p ∧ k = p.block
  φ := fun S w => xs.length * 24 ≤ 140737488355328 ∧ ((r.a = none ∧ xs = [] ∧ r.cap = 0) ∨ ∃ g o cur, r.a = some ⟨g, o, none⟩ ∧ w.heap[g]? = some (.cells cur e (0, 0)) ∧ xs.length ≤ r.cap ∧ o + r.cap ≤ cur.size ∧
      (∀ (i : Nat) (x : List β), xs[i]? = some x → cur[o + i]? = some (.slice (r.es i).a x.length (r.es i).cap))) ∧
    (∀ (i : Nat) (x : List β), xs[i]? = some x → on i → (trow (α := β) e2 (r.es i) x).φ S w) ∧
    (∀ (i j : Nat) (x y : List β) (p q : Addr), i ≠ j → xs[i]? = some x → xs[j]? = some y → on i → on j → (r.es i).a = some p → (r.es j).a = some q → p.block ≠ q.block) ∧
    (∀ (i : Nat) (x : List β) (p q : Addr), xs[i]? = some x → on i → (r.es i).a = some p → r.a = some q → p.block ≠ q.block)
  dep := fun S w w' h hw => by
    obtain ⟨h1, h2, h3, h4, h5⟩ := hw
    refine ⟨h1, ?_, fun i x hx ho => ?_, h4, h5⟩
    · rcases h2 with h2 | ⟨g, o, cur, ha, hg, g3⟩
      · exact .inl h2
      · exact .inr ⟨g, o, cur, ha, by rw [h g (.inl (.inl ⟨_, ha, rfl⟩))]; exact hg, g3⟩
    · refine (trow (α := β) e2 (r.es i) x).dep S w w' (fun k hk => h k ?_) (h3 i x hx ho)
      rcases hk with ⟨p, hp, rfl⟩ | hk
      · exact .inl (.inr ⟨i, x, p, hx, ho, hp, rfl⟩)
      · exact .inr hk
  mono := fun S S' w h hw => ⟨hw.1, hw.2.1, fun i x hx ho => (trow (α := β) e2 (r.es i) x).mono S S' w h (hw.2.2.1 i x hx ho), hw.2.2.2⟩

section
variable {P : Program} {n : Nat} {κ : Ctx} {ρ : Env} {H : List Chunk} {g : Bool} {C : Env → List Chunk → Prop} {β : Type} [GoRep β]

/-- Fewer of the elements. -/
theorem Mem.weak2 {on on' : Nat → Prop} {e e2 : TypeId} {r : SR (SR (R β))} {xs : List (List β)} {w : World} {H' : List Chunk} (hm : Mem κ H w) (hon : ∀ i, on' i → on i)
    (hu : Upd H (rows2 on e e2 r xs) (rows2 on' e e2 r xs) H') : Mem κ H' w := by
  obtain ⟨S, hs⟩ := hm
  have h0 := hs.all _ hu.has.mem
  obtain ⟨h1, h2, h3, h4, h5⟩ := h0.1
  refine ⟨S, hs.upd hu (Frame.refl _ w) (fun _ h => h) (fun _ h => .inl h) hs.lt ⟨h1, h2, fun i x hx ho => h3 i x hx (hon i ho), fun i j x y p q hne hx hy hi hj => h4 i j x y p q hne hx hy (hon i hi) (hon j hj), fun i x p q hx ho => h5 i x p q hx (hon i ho)⟩ ?_⟩
  intro k hk
  have : (rows2 on e e2 r xs).fp k := by
    rcases hk with hk | ⟨i, x, p, hx, ho, hp, rfl⟩
    · exact .inl hk
    · exact .inr ⟨i, x, p, hx, hon i ho, hp, rfl⟩
  exact ⟨.inl this, (h0.2 k this).1, (h0.2 k this).2.1⟩

/-- One element is taken out. -/
theorem Mem.open2 {e e2 : TypeId} {r : SR (SR (R β))} {xs : List (List β)} {w : World} {H1 : List Chunk} {i : Int} {x : List β} (hm : Mem κ H w) (hi : idx xs i = some x)
    (hsel : Sel H (rows2 (fun _ => True) e e2 r xs) H1) : Mem κ (trow (α := β) e2 (r.es i.toNat) x :: rows2 (fun j => j ≠ i.toNat) e e2 r xs :: H1) w := by
  obtain ⟨S, hs⟩ := hm
  have hx := (idx_some hi).2.2
  have hp := hs.perm hsel.perm
  have h0 := hp.all _ List.mem_cons_self
  obtain ⟨h1, h2, h3, h4, h5⟩ := h0.1
  have hd := List.pairwise_cons.1 hp.disj
  have sub1 : ∀ k, (trow (α := β) e2 (r.es i.toNat) x).fp k → (rows2 (fun _ => True) e e2 r xs).fp k := fun k ⟨p, hp, hk⟩ => .inr ⟨i.toNat, x, p, hx, trivial, hp, hk⟩
  have sub2 : ∀ k, (rows2 (fun j => j ≠ i.toNat) e e2 r xs).fp k → (rows2 (fun _ => True) e e2 r xs).fp k := fun k hk => by
    rcases hk with hk | ⟨j, y, p, hy, _, hp, rfl⟩
    · exact .inl hk
    · exact .inr ⟨j, y, p, hy, trivial, hp, rfl⟩
  refine ⟨S, hp.frame, hp.sub, hp.sup, hp.lt, fun c hc => ?_, ?_⟩
  · rcases List.mem_cons.1 hc with rfl | hc
    · exact ⟨h3 _ x hx trivial, fun k hk => h0.2 k (sub1 k hk)⟩
    · rcases List.mem_cons.1 hc with rfl | hc
      · exact ⟨⟨h1, h2, fun j y hy _ => h3 j y hy trivial, fun a b y z p q hne hy hz _ _ => h4 a b y z p q hne hy hz trivial trivial, fun a y p q hy _ => h5 a y p q hy trivial⟩, fun k hk => h0.2 k (sub2 k hk)⟩
      · exact hp.all c (List.mem_cons_of_mem _ hc)
  · rw [List.pairwise_cons, List.pairwise_cons]
    refine ⟨fun c hc k hk hk' => ?_, fun c hc k hk => hd.1 c hc k (sub2 k hk), hd.2⟩
    rcases List.mem_cons.1 hc with rfl | hc
    · obtain ⟨p, hpa, rfl⟩ := hk
      rcases hk' with ⟨q, hq, he⟩ | ⟨j, y, q, hy, hne, hq, he⟩
      · exact h5 _ x p q hx trivial hpa hq he
      · exact h4 j i.toNat y x q p hne hy hx trivial trivial hq hpa he.symm
    · exact hd.1 c hc k (sub1 k hk) hk'

/-- It is put back. -/
theorem Mem.close2 {e e2 : TypeId} {r : SR (SR (R β))} {xs : List (List β)} {w : World} {H1 H2 : List Chunk} {i : Nat} {x : List β} (hm : Mem κ H w) (hx : xs[i]? = some x)
    (hsel : Sel H (trow (α := β) e2 (r.es i) x) H1) (hsel2 : Sel H1 (rows2 (fun j => j ≠ i) e e2 r xs) H2) : Mem κ (rows2 (fun _ => True) e e2 r xs :: H2) w := by
  obtain ⟨S, hs⟩ := hm
  have hp := hs.perm (hsel.perm.trans (List.Perm.cons _ hsel2.perm))
  have h0 := hp.all _ List.mem_cons_self
  have h00 := hp.all _ (List.mem_cons_of_mem _ List.mem_cons_self)
  obtain ⟨h1, h2, h3, h4, h5⟩ := h00.1
  have hd := List.pairwise_cons.1 hp.disj
  have hd2 := List.pairwise_cons.1 hd.2
  have hdd := hd.1 _ List.mem_cons_self
  have cases2 : ∀ k, (rows2 (fun _ => True) e e2 r xs).fp k → (trow (α := β) e2 (r.es i) x).fp k ∨ (rows2 (fun j => j ≠ i) e e2 r xs).fp k := fun k hk => by
    rcases hk with hk | ⟨j, y, p, hy, _, hpa, rfl⟩
    · exact .inr (.inl hk)
    · by_cases hji : j = i
      · subst hji; exact .inl ⟨p, hpa, rfl⟩
      · exact .inr (.inr ⟨j, y, p, hy, hji, hpa, rfl⟩)
  refine ⟨S, hp.frame, hp.sub, hp.sup, hp.lt, fun c hc => ?_, ?_⟩
  · rcases List.mem_cons.1 hc with rfl | hc
    · refine ⟨⟨h1, h2, fun j y hy _ => ?_, fun a b y z p q hne hy hz _ _ hpa hqa => ?_, fun a y p q hy _ hpa hqa => ?_⟩, fun k hk => ?_⟩
      · by_cases hji : j = i
        · subst hji
          rw [hx] at hy; cases hy
          exact h0.1
        · exact h3 j y hy hji
      · by_cases hai : a = i
        · subst hai
          intro he
          exact hdd p.block ⟨p, hpa, rfl⟩ (.inr ⟨b, z, q, hz, Ne.symm hne, hqa, he⟩)
        · by_cases hbi : b = i
          · subst hbi
            intro he
            exact hdd q.block ⟨q, hqa, rfl⟩ (.inr ⟨a, y, p, hy, hai, hpa, he.symm⟩)
          · exact h4 a b y z p q hne hy hz hai hbi hpa hqa
      · by_cases hai : a = i
        · subst hai
          intro he
          exact hdd p.block ⟨p, hpa, rfl⟩ (.inl ⟨q, hqa, he⟩)
        · exact h5 a y p q hy hai hpa hqa
      · rcases cases2 k hk with h | h
        · exact h0.2 k h
        · exact h00.2 k h
    · exact hp.all c (List.mem_cons_of_mem _ (List.mem_cons_of_mem _ hc))
  · rw [List.pairwise_cons]
    refine ⟨fun c hc k hk hk' => ?_, hd2.2⟩
    rcases cases2 k hk with h | h
    · exact hd.1 c (List.mem_cons_of_mem _ hc) k h hk'
    · exact hd2.1 c hc k h hk'

theorem ev_idx2 {x y : Operand} {t m : Nat} {k : IntKind} {i : Int} {on : Nat → Prop} {e e2 : TypeId} {r : SR (SR (R β))} {xs : List (List β)} (hh : Has H (rows2 on e e2 r xs)) (hi : g = true → 0 ≤ i ∧ i < xs.length)
    (hx : Gets ρ g x (.slice r.a m r.cap) := by first | exact .plain rfl | exact .cond rfl id | exact .cond rfl gl) (hy : Gets ρ g y (.int k i) := by first | exact .plain rfl | exact .cond rfl id | exact .cond rfl gl)
    (hs : elemSize P t = some 1 := by kernel_rfl) (hml : m = xs.length := by first | rfl | simp only [List.length_set, List.length_append, List.length_replicate]) :
    Ev P n κ H ρ g (.indexAddr t x y) (.pointer (some ⟨sb r.a, so r.a + i.toNat * 1, none⟩)) := by
  subst hml
  intro w a dst ty pos aft gd hm ho hg
  have hb := hi hg
  have ha : r.a = some ⟨sb r.a, so r.a, none⟩ := by
    obtain ⟨S, hms⟩ := hm
    obtain ⟨g', o, cur, ha, _⟩ := (hh.φ hms).2.1.resolve_left (fun ⟨_, h, _⟩ => by subst h; simp at hb; omega)
    rw [ha]; rfl
  have e1 := hx.eval ho hg
  rw [ha] at e1
  have e2 := hy.eval ho hg
  unfold elemSize at hs
  split at hs
  · rename_i el hu
    cases hti : P.info? el with
    | none => rw [hti] at hs; cases hs
    | some ti =>
      rw [hti] at hs
      simp at hs
      show (Instr.indexAt t (a.eval x) (a.eval y) >>= fun v => pure (Next.value v)).run P w = _
      rw [e1, e2]
      refine run_value ?_
      unfold Instr.indexAt
      show (underlying t >>= _).run P w = _
      rw [run_bind_ok (run_under hu w)]
      show (underlying t >>= _).run P w = _
      rw [run_bind_ok (run_under hu w)]
      simp only [hb, and_self, if_true]
      rw [run_bind_ok (run_size hti w), hs]
      show Result.ok (Value.pointer (some (Addr.add ⟨sb r.a, so r.a, none⟩ (i.toNat * 1)))) w = _
      rw [Addr.add_lit]
  · cases hs

theorem ev_ld2 {x : Operand} {t : TypeId} {on : Nat → Prop} {e e2 : TypeId} {r : SR (SR (R β))} {xs : List (List β)} {i : Int} {y : List β} (hh : Has H (rows2 on e e2 r xs)) (hi : g = true → idx xs i = some y)
    (hx : Gets ρ g x (.pointer (some ⟨sb r.a, so r.a + i.toNat * 1, none⟩)) := by first | exact .plain rfl | exact .cond rfl id | exact .cond rfl gl)
    (ht : oneT P t = true := by kernel_rfl) : Ev P n κ H ρ g (.load t x) (.slice (r.es i.toNat).a y.length (r.es i.toNat).cap) :=
  ev_load_cell hx ht fun hg w hm => by
    obtain ⟨h0, hlt, hy⟩ := idx_some (hi hg)
    obtain ⟨S, hms⟩ := hm
    obtain ⟨g', o, cur, ha, hgb, _, _, h5⟩ := (hh.φ hms).2.1.resolve_left (fun ⟨_, h, _⟩ => by subst h; simp at hlt; omega)
    rw [ha]
    show w.cell? ⟨g', o + i.toNat * 1, none⟩ = _
    rw [Nat.mul_one]
    simp [World.cell?, hgb, h5 _ y hy]

/-- The elements of the elements may be read. -/
theorem Kn.row2 {e e2 : TypeId} {r : SR (SR (R β))} {xs : List (List β)} {i : Int} {x : List β} (h : Has H (rows2 (fun _ => True) e e2 r xs)) (hi : idx xs i = some x) : Kn κ H (α := List β) (r.es i.toNat) x := fun S w hm => by
  have hx := (idx_some hi).2.2
  have h3 := (h.φ hm).2.2.1 _ x hx trivial
  refine ⟨(Dc.trow (α := β) e2 (r.es i.toNat) x).fp, fun k hk => ⟨_, h.mem, ?_⟩, trow_slOk h3⟩
  obtain ⟨p, hp, rfl⟩ := hk
  exact .inr ⟨_, x, p, hx, trivial, hp, rfl⟩

/-- All of it may be read. -/
theorem Kn.trow2 {e e2 : TypeId} {r : SR (SR (R β))} {xs : List (List β)} (h : Has H (rows2 (fun _ => True) e e2 r xs)) : Kn κ H (α := List (List β)) r xs := fun S w hm => by
  obtain ⟨h1, h2, h3, _, _⟩ := h.φ hm
  refine ⟨(rows2 (fun _ => True) e e2 r xs).fp, fun k hk => ⟨_, h.mem, hk⟩, ?_⟩
  by_cases hne : xs = []
  · subst hne
    exact ⟨Nat.zero_le _, by simp, fun i x hx => by simp at hx⟩
  · obtain ⟨g, o, cur, ha, hg, g3, g4, g5⟩ := h2.resolve_left (fun h => hne h.2.1)
    refine ⟨g3, h1, fun i x hx => ⟨by rw [ha]; rfl, .inr (.inl ⟨_, ha, by rw [ha]; rfl⟩), fun j v hv => ?_, ?_⟩⟩
    · rw [ha]
      show w.cell? ⟨g, o + (i * 1 + j), none⟩ = some v
      have hj : j = 0 := by
        have := (List.getElem?_eq_some_iff.1 hv).1
        have h1' : (GoRep.enc (α := List β) (r.es i) x).length = 1 := rfl
        omega
      subst hj
      have hv' : v = .slice (r.es i).a x.length (r.es i).cap := by
        have h2' : (GoRep.enc (α := List β) (r.es i) x)[0]? = some (.slice (r.es i).a x.length (r.es i).cap) := rfl
        rw [h2'] at hv
        exact (Option.some.inj hv).symm
      rw [hv', Nat.mul_one, Nat.add_zero]
      simp [World.cell?, hg, g5 i x hx]
    · refine SlOk.mono (fun k hk => ?_) (trow_slOk (h3 i x hx trivial))
      rcases hk with hk | ⟨p, hp, rfl⟩
      · exact .inl hk
      · exact .inr (.inr ⟨i, x, p, hx, trivial, hp, rfl⟩)

/-- The header of the element that is out is written. -/
theorem st_set2 {x y : Operand} {t e e2 : Nat} {ty : TypeId} {pos : String} {aft : Array Edge} {gd : Option (Nat × Bool)} {r : SR (SR (R β))} {xs : List (List β)} {i : Int} {u u' : List β} {q : SR (R β)} {m : Nat} {H' : List Chunk}
    (hi : idx xs i = some u) (hu : Upd H (rows2 (fun j => j ≠ i.toNat) e e2 r xs) (rows2 (fun j => j ≠ i.toNat) e e2 (r.upd i.toNat q) (xs.set i.toNat u')) H') (k : C ρ H')
    (hx : Gets ρ true x (.pointer (some ⟨sb r.a, so r.a + i.toNat * 1, none⟩)) := by first | exact .plain rfl | exact .cond rfl id | exact .cond rfl gl) (hy : Gets ρ true y (.slice q.a m q.cap) := by first | exact .plain rfl | exact .cond rfl id | exact .cond rfl gl)
    (hml : m = u'.length := by first | rfl | simp only [List.length_set, List.length_append, List.length_replicate])
    (ht : P.cellsOf t = 1 := by kernel_rfl) (hti : (P.info? t).isSome = true := by kernel_rfl) : StepO P n κ ⟨none, .store t x y, ty, pos, aft, gd⟩ ρ H C := by
  subst hml
  intro K Q hs w a hm ho
  obtain ⟨hi0, hilt, hget⟩ := idx_some hi
  obtain ⟨S, hms⟩ := hm
  have hφ := hu.has.φ hms
  have hin := (hms.all _ hu.has.mem).2
  obtain ⟨h1, h2, h3, h4, h5⟩ := hφ
  obtain ⟨gb, off, cur, ha, hgb, g3, g4, g5⟩ := h2.resolve_left (fun ⟨_, h, _⟩ => by subst h; simp at hilt; omega)
  have e1 := hx.eval ho rfl
  have e2' := hy.eval ho rfl
  rw [ha] at e1
  have e1' : a.eval x = .pointer (some ⟨gb, off + i.toNat, none⟩) := by rw [e1]; simp [sb, so]
  have hfit : (off + i.toNat) + 0 + [(.slice q.a u'.length q.cap : Value)].length ≤ cur.size := by simp; omega
  have hst := run_storeCells_at P gb (off + i.toNat) e [Value.slice q.a u'.length q.cap] 0 cur w hgb hfit (fun v hv => by simp at hv; subst hv; rfl)
  simp only [Nat.add_zero] at hst
  cases hinf : P.info? t with
  | none => rw [hinf] at hti; cases hti
  | some ti =>
    have hsz : ti.size = 1 := by simpa [Program.cellsOf, hinf] using ht
    have hrun : (execOp a.eval ⟨none, .store t x y, ty, pos, aft, gd⟩).run P w = .ok .skip (w.setRow gb (cur.toList.take (off + i.toNat) ++ [Value.slice q.a u'.length q.cap] ++ cur.toList.drop (off + i.toNat + [(.slice q.a u'.length q.cap : Value)].length)).toArray) := by
      show ((Instr.storeAt t (a.eval x) (a.eval y)) >>= fun _ => pure Next.skip).run P w = _
      rw [e1', e2']
      have : (Instr.storeAt t (.pointer (some ⟨gb, off + i.toNat, none⟩)) (.slice q.a u'.length q.cap)).run P w = .ok () (w.setRow gb (cur.toList.take (off + i.toNat) ++ [Value.slice q.a u'.length q.cap] ++ cur.toList.drop (off + i.toNat + [(.slice q.a u'.length q.cap : Value)].length)).toArray) := by
        show (storeVar t ⟨gb, off + i.toNat, none⟩ (.slice q.a u'.length q.cap)).run P w = _
        unfold storeVar
        rw [run_bind_ok (run_size hinf w)]
        have hsz2 : ¬ ((Value.slice q.a u'.length q.cap).cells.size ≠ ti.size) := by simp [hsz, Value.cells]
        simp only [hsz2, if_false]
        exact hst
      rw [run_bind_ok this]
      rfl
    unfold Oper.wp
    rw [hrun]
    have hcl : cur.toList.length = cur.size := Array.length_toList
    have hpre : (cur.toList.take (off + i.toNat)).length = off + i.toNat := by rw [List.length_take, hcl]; omega
    have hne : ∀ k, k ≠ gb → (w.setRow gb (cur.toList.take (off + i.toNat) ++ [Value.slice q.a u'.length q.cap] ++ cur.toList.drop (off + i.toNat + [(.slice q.a u'.length q.cap : Value)].length)).toArray).heap[k]? = w.heap[k]? := fun k hk => by
      simp [World.setRow, Array.getElem?_modify, Ne.symm hk]
    have fpeq : ∀ k, (rows2 (fun j => j ≠ i.toNat) e e2 (r.upd i.toNat q) (xs.set i.toNat u')).fp k → (rows2 (fun j => j ≠ i.toNat) e e2 r xs).fp k := fun k hk => by
      rcases hk with ⟨p, hp, rfl⟩ | ⟨j, y, p, hy, hji, hp, rfl⟩
      · exact .inl ⟨p, hp, rfl⟩
      · rw [List.getElem?_set_ne (Ne.symm hji)] at hy
        have hp' : (r.es j).a = some p := by have h := hp; simp only [SR.upd, hji, if_false] at h; exact h
        exact .inr ⟨j, y, p, hy, hji, hp', rfl⟩
    have get : ∀ j y, j ≠ i.toNat → (xs.set i.toNat u')[j]? = some y → xs[j]? = some y := fun j y hj hy => by rwa [List.getElem?_set_ne (Ne.symm hj)] at hy
    have es' : ∀ j, j ≠ i.toNat → (r.upd i.toNat q).es j = r.es j := fun j hj => by simp only [SR.upd, hj, if_false]
    refine hs _ _ k _ _ ⟨S, hms.upd hu ⟨rfl, rfl, rfl, by simp [World.setRow], fun kk _ hn => hne kk (fun h => hn (.inl ⟨_, ha, h⟩))⟩ (fun _ h => h) (fun _ h => .inl h) (fun k hk => by simpa [World.setRow] using hms.lt k hk) ⟨by rw [List.length_set]; exact h1, .inr ⟨gb, off, _, ha, setRow_heap w gb cur _ e (0, 0) hgb, by rw [List.length_set]; exact g3, ?_, ?_⟩, ?_, ?_, ?_⟩ ?_⟩ ho
    · show off + r.cap ≤ _
      simp only [List.size_toArray, List.length_append, hpre, List.length_drop, hcl, List.length_singleton]
      omega
    · intro j y hy
      simp only [List.getElem?_toArray]
      by_cases hji : j = i.toNat
      · subst hji
        rw [List.getElem?_set_self (by omega)] at hy
        cases hy
        rw [List.append_assoc, List.getElem?_append_right (by omega), hpre, Nat.sub_self]
        simp [SR.upd]
      · rw [es' j hji]
        have := g5 j y (get j y hji hy)
        rcases Nat.lt_or_gt_of_ne hji with hlt | hgt
        · rw [List.append_assoc, List.getElem?_append_left (by omega), List.getElem?_take, if_pos (by omega)]
          simpa using this
        · rw [List.getElem?_append_right (by simp [hpre]; omega), List.getElem?_drop]
          simp only [List.length_append, hpre, List.length_singleton]
          rw [show off + i.toNat + 1 + (off + j - (off + i.toNat + 1)) = off + j by omega]
          simpa using this
    · intro j y hy hji
      rw [es' j hji]
      refine (trow (α := β) e2 (r.es j) y).dep S w _ (fun k hk => hne k ?_) (h3 j y (get j y hji hy) hji)
      rcases hk with ⟨p, hp, rfl⟩ | hk
      · exact fun h => h5 j y p _ (get j y hji hy) hji hp ha h
      · exact fun h => by subst h; exact (hin k (.inl ⟨_, ha, rfl⟩)).2.1 hk
    · intro a b y z p q' hab hy hz hai hbi hp hq
      rw [es' a hai] at hp
      rw [es' b hbi] at hq
      exact h4 a b y z p q' hab (get a y hai hy) (get b z hbi hz) hai hbi hp hq
    · intro a y p q' hy hai hp hq
      rw [es' a hai] at hp
      exact h5 a y p q' (get a y hai hy) hai hp hq
    · intro k hk
      have := hin k (fpeq k hk)
      exact ⟨.inl (fpeq k hk), by simpa [World.setRow] using this.1, this.2.1⟩

/-- All nil. -/
theorem Mem.rows2_nil {e e2 : TypeId} {r : SR (SR (R β))} {m : Nat} {w : World} {H' : List Chunk} (hm : Mem κ H w) (hr : ∀ i, (r.es i).a = none ∧ (r.es i).cap = 0)
    (hu : Upd H (trow (α := List β) e r (List.replicate m [])) (rows2 (fun _ => True) e e2 r (List.replicate m [])) H') : Mem κ H' w := by
  obtain ⟨S, hs⟩ := hm
  have h0 := hs.all _ hu.has.mem
  have hrep : ∀ i (x : List β), (List.replicate m ([] : List β))[i]? = some x → x = [] := fun i x hx => by
    rw [List.getElem?_replicate] at hx
    split at hx
    · simpa using hx.symm
    · cases hx
  refine ⟨S, hs.upd hu (Frame.refl _ w) (fun _ h => h) (fun _ h => .inl h) hs.lt ⟨h0.1.1, ?_, fun i x hx _ => ?_, fun i j x y p q _ hx _ _ _ hp => ?_, fun i x p q hx _ hp => ?_⟩ ?_⟩
  · rcases h0.1.2 with h2 | ⟨g, o, cur, ha, hg, h3, h4, h5⟩
    · exact .inl h2
    · refine .inr ⟨g, o, cur, ha, hg, h3, by simpa [GoRep.n] using h4, fun i x hx => ?_⟩
      have := (h5 i x hx).1 0 _ rfl
      simpa [GoRep.n] using this
  · have := hrep i x hx
    subst this
    exact ⟨by simp, .inl ⟨(hr i).1, rfl, (hr i).2⟩⟩
  · rw [(hr i).1] at hp; cases hp
  · rw [(hr i).1] at hp; cases hp
  · intro k hk
    rcases hk with hk | ⟨i, x, p, hx, _, hp, _⟩
    · exact ⟨.inl hk, (h0.2 k hk).1, (h0.2 k hk).2.1⟩
    · rw [(hr i).1] at hp; cases hp

theorem set_get {α : Type} {xs : List α} {i : Int} {u u' : α} (hi : idx xs i = some u) : (xs.set i.toNat u')[i.toNat]? = some u' := by
  have := (idx_some hi).2.1
  have := (idx_some hi).1
  rw [List.getElem?_set_self (by omega)]
theorem Mem.shut2 {e e2 : TypeId} {r : SR (SR (R β))} {xs : List (List β)} {w : World} {H1 H2 : List Chunk} {i : Int} {u u' : List β} {q : SR (R β)} (hm : Mem κ H w) (hi : idx xs i = some u)
    (hsel : Sel H (trow (α := β) e2 q u') H1) (hsel2 : Sel H1 (rows2 (fun j => j ≠ i.toNat) e e2 (r.upd i.toNat q) (xs.set i.toNat u')) H2) : Mem κ (rows2 (fun _ => True) e e2 (r.upd i.toNat q) (xs.set i.toNat u') :: H2) w := by
  have he : (r.upd i.toNat q).es i.toNat = q := by simp [SR.upd]
  rw [← he] at hsel
  exact hm.close2 (set_get hi) hsel hsel2
theorem mk_nil {xs : List (List β)} {p : Int} (h : mk (α := List β) [] p = some xs) : ∃ m, xs = List.replicate m [] := by
  unfold mk at h
  split at h
  · simp at h; exact ⟨_, h.symm⟩
  · cases h
theorem Mem.nil2 {e e2 : TypeId} {r : SR (SR (R β))} {xs : List (List β)} {p : Int} {w : World} {H' : List Chunk} {es : Nat → R β} (hm : Mem κ H w) (h : mk (α := List β) [] p = some xs) (hr : ∀ i, r.es i = ⟨none, 0, es⟩)
    (hu : Upd H (trow (α := List β) e r xs) (rows2 (fun _ => True) e e2 r xs) H') : Mem κ H' w := by
  obtain ⟨m, rfl⟩ := mk_nil h
  exact hm.rows2_nil (fun i => by rw [hr i]; exact ⟨rfl, rfl⟩) hu

/-! ### Closures -/

theorem run_dyn {f : Nat} {x : Operand} {xs : List Operand} {vs cap : List Value} {ts : Array TypeId} {dst : Option Tmp} {ty : TypeId} {pos : String} {aft : Array Edge} {gd : Option (Nat × Bool)} {a : Act} {w : World}
    (hx : a.eval x = .func (.func f) #[] cap.toArray) (e : xs.map a.eval = vs) (hf : callable P f = true) :
    (execOp a.eval ⟨dst, .call { callee := .value x, args := xs.toArray, argTypes := ts }, ty, pos, aft, gd⟩).run P w = .ok (.enter f (vs ++ cap).toArray) w := by
  simp only [execOp, resolve, List.map_toArray, e, hx]
  show (callFunc f ((#[] ++ vs.toArray) ++ cap.toArray)).run P w = _
  rw [Array.empty_append, ← List.append_toArray]
  exact run_callFunc hf
theorem st_dynS0 {f : Nat} {x : Operand} {xs : List Operand} {vs cap : List Value} {ts : Array TypeId} {ty : TypeId} {pos : String} {aft : Array Edge} {gd : Option (Nat × Bool)}
    {β : Type} {cs H1 : List Chunk} {val : β → Value} {cs' : β → List Chunk} (hsel : SelL H cs H1)
    (hc : ∀ S w, MemS S κ H1 w → Pre S cs w → Calls P f (vs ++ cap).toArray w (Post S cs val cs' w))
    (k : ∀ r, C ρ (cs' r ++ H1))
    (hx : Gets ρ true x (.func (.func f) #[] cap.toArray) := by first | exact .plain rfl | exact .cond rfl id | exact .cond rfl gl)
    (ha : GetsG ρ true xs vs := by repeat (first | exact GetsG.nil | (apply GetsG.cons; first | exact .plain rfl | exact .cond rfl id | exact .cond rfl gl)))
    (hf : callable P f = true := by kernel_rfl) :
    StepO P n κ ⟨none, .call { callee := .value x, args := xs.toArray, argTypes := ts }, ty, pos, aft, gd⟩ ρ H C := by
  intro K Q hs w a hm ho
  obtain ⟨S, hm⟩ := hm
  unfold Oper.wp
  rw [run_dyn (hx.eval ho rfl) (ha.eval ho rfl) hf]
  have hp := hm.perm hsel.perm
  have h1 : MemS S κ H1 w := hp.sub' (List.sublist_append_right _ _)
  have hcs := hp.fold.all _ List.mem_cons_self
  refine (hc S w h1 ⟨hp.lt, hcs.1, fun k hk => ⟨(hcs.2 k hk).1, (hcs.2 k hk).2.1⟩⟩).mono ?_
  rintro e w' ⟨r, S', rfl, hφ, hfp, hS1, hS2, hS3, hfr⟩
  exact hs _ _ (k r) w' _ ⟨S', (hp.fold.upd (c' := many (cs' r)) .head hfr hS1 hS2 hS3 hφ hfp).unfold⟩ ho
theorem st_dynS {f d : Nat} {x : Operand} {xs : List Operand} {vs cap : List Value} {ts : Array TypeId} {ty : TypeId} {pos : String} {aft : Array Edge} {gd : Option (Nat × Bool)}
    {β : Type} {cs H1 : List Chunk} {val : β → Value} {cs' : β → List Chunk} (hsel : SelL H cs H1)
    (hc : ∀ S w, MemS S κ H1 w → Pre S cs w → Calls P f (vs ++ cap).toArray w (Post S cs val cs' w))
    (k : ∀ r, C ((d, .v (val r)) :: ρ) (cs' r ++ H1))
    (hx : Gets ρ true x (.func (.func f) #[] cap.toArray) := by first | exact .plain rfl | exact .cond rfl id | exact .cond rfl gl)
    (ha : GetsG ρ true xs vs := by repeat (first | exact GetsG.nil | (apply GetsG.cons; first | exact .plain rfl | exact .cond rfl id | exact .cond rfl gl)))
    (hd : Nat.blt d n = true := by rfl) (hf : callable P f = true := by kernel_rfl) :
    StepO P n κ ⟨some d, .call { callee := .value x, args := xs.toArray, argTypes := ts }, ty, pos, aft, gd⟩ ρ H C := by
  intro K Q hs w a hm ho
  obtain ⟨S, hm⟩ := hm
  unfold Oper.wp
  rw [run_dyn (hx.eval ho rfl) (ha.eval ho rfl) hf]
  have hp := hm.perm hsel.perm
  have h1 : MemS S κ H1 w := hp.sub' (List.sublist_append_right _ _)
  have hcs := hp.fold.all _ List.mem_cons_self
  refine (hc S w h1 ⟨hp.lt, hcs.1, fun k hk => ⟨(hcs.2 k hk).1, (hcs.2 k hk).2.1⟩⟩).mono ?_
  rintro e w' ⟨r, S', rfl, hφ, hfp, hS1, hS2, hS3, hfr⟩
  exact hs _ _ (k r) w' _ ⟨S', (hp.fold.upd (c' := many (cs' r)) .head hfr hS1 hS2 hS3 hφ hfp).unfold⟩ (ho.put (by simpa [Nat.blt_eq] using hd) rfl)
/-- A closure's value. -/
theorem ev_makeFunc {f : Nat} {xs : List Operand} {vs : List Value} (ha : GetsG ρ g xs vs := by repeat (first | exact GetsG.nil | (apply GetsG.cons; first | exact .plain rfl | exact .cond rfl id | exact .cond rfl gl))) :
    Ev P n κ H ρ g (.makeFunc (.func f) #[] xs.toArray) (.func (.func f) #[] vs.toArray) := by
  intro w a dst ty pos aft gd hm ho hg
  simp only [execOp, List.map_toArray, ha.eval ho hg]
  rfl

/-! ### Jumps forward -/

/-- A label that is come to by jumps alone. -/
theorem cw_scope {γ : Type} {c rest : Code} {Q : Exit → Act → World → Prop} (l : Nat) (env : γ → Env) (mem : γ → List Chunk) (R : γ → Prop) (hf : findLabel c l = some rest)
    (first : ∀ J : Act → World → Prop, (∀ g' ρ' H', R g' → SubL (env g') ρ' → (∀ w, Mem κ H' w → Mem κ (mem g') w) → KW n κ J ρ' H') → CW P n κ c (Exit.jump l J Q) ρ H)
    (pass : ∀ g, R g → CW P n κ rest (Exit.jump l (fun _ _ => False) Q) (env g) (mem g)) : CW P n κ (.scope c) Q ρ H := by
  intro w a hm ho
  refine wp_scope_jumps l (fun a w => ∃ g, R g ∧ Mem κ (mem g) w ∧ Ok n (env g) a) (fun _ _ => 0) hf ?_ ?_
  · exact first _ (fun g' ρ' H' hR hs hH w' a' hm' ho' => ⟨g', hR, hH w' hm', ho'.sub hs.sub⟩) w a hm ho
  · rintro a w ⟨g, hR, hm, ho⟩
    refine wp_mono (pass g hR w a hm ho) (fun e a' w' h => ?_)
    cases e with
    | goto l' => exact h.2.elim
    | _ => exact h

theorem cw_gotoJ {l : Nat} {J : Act → World → Prop} (h : KW n κ J ρ H) : KW n κ (fun a w => l = l ∧ J a w) ρ H := fun w a hm ho => ⟨rfl, h w a hm ho⟩
theorem cw_goto {l : Nat} {Q : Exit → Act → World → Prop} (h : KW n κ (fun a w => Q (.goto l) a w) ρ H) : CW P n κ (.goto l) Q ρ H := fun w a hm ho => wp_goto (h w a hm ho)
end
end Go.Dc

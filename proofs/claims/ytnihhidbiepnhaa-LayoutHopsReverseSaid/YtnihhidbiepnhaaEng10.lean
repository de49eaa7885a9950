/- Engine, part 10: several chunks handed to a call as one. -/
import Derived.Test.YtnihhidbiepnhaaEng9
namespace Go.Eng
open Go.RowKit

/-- Several chunks as one. -/
def many (cs : List Chunk) : Chunk where
  fp := fun k => ∃ c ∈ cs, c.fp k
  φ := fun w => (∀ c ∈ cs, c.φ w) ∧ cs.Pairwise Disj
  dep := fun w w' h hw => ⟨fun c hc => c.dep w w' (fun k hk => h k ⟨c, hc, hk⟩) (hw.1 c hc), hw.2⟩

theorem Mem.unfold {w0 w : World} {cs H : List Chunk} (hm : Mem w0 (many cs :: H) w) : Mem w0 (cs ++ H) w := by
  have hφ := (Has.head : Has (many cs :: H) _).φ hm
  have hd := List.pairwise_cons.1 hm.disj
  refine ⟨hm.os, hm.tape, hm.output, hm.size, fun c hc => ?_, ?_⟩
  · rcases List.mem_append.1 hc with hc | hc
    · exact ⟨hφ.1 c hc, fun k hk => (hm.all _ List.mem_cons_self).2 k ⟨c, hc, hk⟩⟩
    · exact hm.all c (List.mem_cons_of_mem _ hc)
  · rw [List.pairwise_append]
    exact ⟨hφ.2, hd.2, fun c hc d hdm k hk => hd.1 d hdm k ⟨c, hc, hk⟩⟩

theorem Mem.fold {w0 w : World} {cs H : List Chunk} (hm : Mem w0 (cs ++ H) w) : Mem w0 (many cs :: H) w := by
  have hd := List.pairwise_append.1 hm.disj
  refine ⟨hm.os, hm.tape, hm.output, hm.size, fun c hc => ?_, ?_⟩
  · rcases List.mem_cons.1 hc with rfl | hc
    · exact ⟨⟨fun c hc => (hm.all c (List.mem_append.2 (.inl hc))).1, hd.1⟩, fun k ⟨c, hc, hk⟩ => (hm.all c (List.mem_append.2 (.inl hc))).2 k hk⟩
    · exact hm.all c (List.mem_append.2 (.inr hc))
  · rw [List.pairwise_cons]
    exact ⟨fun d hdm k ⟨c, hc, hk⟩ => hd.2.2 c hc d hdm k hk, hd.2.1⟩

/-- Several chunks are picked out. -/
inductive SelL : List Chunk → List Chunk → List Chunk → Prop
  | nil {H : List Chunk} : SelL H [] H
  | cons {H H1 H' cs : List Chunk} {c : Chunk} : Sel H c H1 → SelL H1 cs H' → SelL H (c :: cs) H'
theorem SelL.perm {H H' cs : List Chunk} (h : SelL H cs H') : H.Perm (cs ++ H') := by
  induction h with
  | nil => exact .refl _
  | cons h _ ih => exact h.perm.trans (List.Perm.cons _ ih)

theorem Mem.pick {w0 w : World} {H H' cs : List Chunk} (hm : Mem w0 H w) (h : SelL H cs H') : Mem w0 (many cs :: H') w := (hm.perm h.perm).fold

theorem Mem.reord {w0 w : World} {H H' cs : List Chunk} (hm : Mem w0 H w)
    (h : SelL H cs H' := by repeat (first | exact SelL.nil | (apply SelL.cons; · (repeat (first | exact Sel.head | apply Sel.tail))))) : Mem w0 cs w := (hm.pick h).unfold.sub (List.sublist_append_left _ _)

section
variable {P : Program} {n : Nat} {w0 : World} {ρ : Env} {H : List Chunk} {C : Env → List Chunk → Prop}

theorem st_callM {f d : Nat} {xs : List Operand} {vs : List Value} {ts : Array TypeId} {ty : TypeId} {pos : String} {aft : Array Edge} {gd : Option (Nat × Bool)}
    {β : Type} {cs H1 : List Chunk} {val : β → Value} {R : β → Prop} {cs' : β → List Chunk}
    (hc : ∀ w, Mem w0 H w → (many cs).φ w → (∀ k, (many cs).fp k → k < w.heap.size) → Calls P f vs.toArray w (Mut (many cs) val R (fun r => many (cs' r)) w))
    (hsel : SelL H cs H1 := by repeat (first | exact SelL.nil | (apply SelL.cons; · (repeat (first | exact Sel.head | apply Sel.tail)))))
    (ha : GetsG ρ true xs vs := by repeat (first | exact GetsG.nil | (apply GetsG.cons; first | exact .plain rfl | exact .cond rfl id | exact .cond rfl gl)))
    (hd : Nat.blt d n = true := by rfl) (hf : callable P f = true := by kernel_rfl) (k : ∀ r, R r → C ((d, .v (val r)) :: ρ) (cs' r ++ H1)) :
    StepO P n w0 ⟨some d, .call { callee := .value (.func f), args := xs.toArray, argTypes := ts }, ty, pos, aft, gd⟩ ρ H C := by
  intro K Q hs w a hm ho
  unfold Oper.wp
  rw [run_call (ha.eval ho rfl) hf]
  have hp := hm.pick hsel
  refine (hc w hm ((Has.head : Has (many cs :: H1) _).φ hp) (fun k hk => (Has.head : Has (many cs :: H1) _).lt hp hk)).mono ?_
  rintro e w' ⟨r, rfl, hR, hφ, hfp, hfr⟩
  exact hs _ _ (k r hR) w' _ (hp.upd (c' := many (cs' r)) .head hfr hφ hfp).unfold (ho.put (by simpa [Nat.blt_eq] using hd) rfl)

theorem st_callM0 {f : Nat} {xs : List Operand} {vs : List Value} {ts : Array TypeId} {ty : TypeId} {pos : String} {aft : Array Edge} {gd : Option (Nat × Bool)}
    {β : Type} {cs H1 : List Chunk} {val : β → Value} {R : β → Prop} {cs' : β → List Chunk}
    (hc : ∀ w, Mem w0 H w → (many cs).φ w → (∀ k, (many cs).fp k → k < w.heap.size) → Calls P f vs.toArray w (Mut (many cs) val R (fun r => many (cs' r)) w))
    (hsel : SelL H cs H1 := by repeat (first | exact SelL.nil | (apply SelL.cons; · (repeat (first | exact Sel.head | apply Sel.tail)))))
    (ha : GetsG ρ true xs vs := by repeat (first | exact GetsG.nil | (apply GetsG.cons; first | exact .plain rfl | exact .cond rfl id | exact .cond rfl gl)))
    (hf : callable P f = true := by kernel_rfl) (k : ∀ r, R r → C ρ (cs' r ++ H1)) :
    StepO P n w0 ⟨none, .call { callee := .value (.func f), args := xs.toArray, argTypes := ts }, ty, pos, aft, gd⟩ ρ H C := by
  intro K Q hs w a hm ho
  unfold Oper.wp
  rw [run_call (ha.eval ho rfl) hf]
  have hp := hm.pick hsel
  refine (hc w hm ((Has.head : Has (many cs :: H1) _).φ hp) (fun k hk => (Has.head : Has (many cs :: H1) _).lt hp hk)).mono ?_
  rintro e w' ⟨r, rfl, hR, hφ, hfp, hfr⟩
  exact hs _ _ (k r hR) w' _ (hp.upd (c' := many (cs' r)) .head hfr hφ hfp).unfold ho

/-- The start of a call that is handed the chunks cs. -/
theorem Mem.start_many {w : World} (cs : List Chunk) (hφ : (many cs).φ w) (hfp : ∀ k, (many cs).fp k → k < w.heap.size) : Mem w (cs ++ [oldBut w (many cs).fp]) w :=
  (Mem.start_but (many cs) hφ hfp).unfold

/-- Its end: chunks cs' in the place of cs, each of whose blocks is one of cs or new. -/
theorem mut_of {w w' : World} {β : Type} {cs H Hr : List Chunk} {val : β → Value} {R : β → Prop} {cs' : β → List Chunk} {v : Value} (r : β) (hm : Mem w H w') (hR : R r) (hv : v = val r)
    (hsel : SelL H (cs' r) Hr := by repeat (first | exact SelL.nil | (apply SelL.cons; · (repeat (first | exact Sel.head | apply Sel.tail)))))
    (hh : Has Hr (oldBut w (many cs).fp) := by repeat (first | exact Has.head | apply Has.tail)) : Mut (many cs) val R (fun r => many (cs' r)) w (.returned v) w' := by
  have hp := hm.pick hsel
  have hd := List.pairwise_cons.1 hp.disj
  refine ⟨r, by rw [hv], hR, (Has.head : Has (many (cs' r) :: Hr) _).φ hp, fun k hk => ⟨?_, (Has.head : Has (many (cs' r) :: Hr) _).lt hp hk⟩, hp.frame (.tail hh)⟩
  by_cases hlt : k < w.heap.size
  · by_cases hin : (many cs).fp k
    · exact .inl hin
    · exact absurd ⟨hlt, hin⟩ (hd.1 _ hh.mem k hk)
  · exact .inr (by omega)

theorem cell_oldBut {a : Option Addr} {l : List Value} {lo hi j : Nat} {v : Value} {fp : Nat → Prop} (hs : Sl lo hi w0 a l) (hj : l[j]? = some v) (hhi : hi ≤ w0.heap.size) (hn : ¬ fp (sb a)) (hh : Has H (oldBut w0 fp)) :
    ∀ w, Mem w0 H w → w.cell? ⟨sb a, so a + j, none⟩ = some v := fun w hm => by
  obtain ⟨_, _, h3, h4⟩ := hs j v hj
  rw [World.cell?_of_block (w := w0) (a := ⟨sb a, so a + j, none⟩) (hh.φ hm (sb a) (by omega) hn)]
  exact h4
end
end Go.Eng

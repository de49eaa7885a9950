/- Engine, part 6: contracts of calls that change a chunk of the caller's. -/
import Derived.Test.YtnihhidbiepnhaaEng5
namespace Go.Eng
open Go.RowKit

theorem Mem.start_but {w : World} (c : Chunk) (hφ : c.φ w) (hfp : ∀ k, c.fp k → k < w.heap.size) : Mem w [c, oldBut w c.fp] w := by
  refine ⟨rfl, rfl, rfl, Nat.le_refl _, fun d hd => ?_, ?_⟩
  · simp at hd
    rcases hd with rfl | rfl
    · exact ⟨hφ, hfp⟩
    · exact ⟨fun _ _ _ => rfl, fun k hk => hk.1⟩
  · rw [List.pairwise_cons]
    refine ⟨fun d hd k hc hd' => ?_, List.pairwise_singleton _ _⟩
    simp at hd
    subst hd
    exact hd'.2 hc

theorem Mem.frame {w0 w : World} {H : List Chunk} {fp : Nat → Prop} (hm : Mem w0 H w) (h : Has H (oldBut w0 fp)) : Frame fp w0 w :=
  ⟨hm.os, hm.tape, hm.output, hm.size, h.φ hm⟩

/-- The contract's form for a call that changes chunk c into one of c', and returns val. -/
def Mut (c : Chunk) {β : Type} (val : β → Value) (R : β → Prop) (c' : β → Chunk) (w : World) (e : Ending) (w' : World) : Prop :=
  ∃ r, e = .returned (val r) ∧ R r ∧ (c' r).φ w' ∧ (∀ k, (c' r).fp k → (c.fp k ∨ w.heap.size ≤ k) ∧ k < w'.heap.size) ∧ Frame c.fp w w'

section
variable {P : Program} {n : Nat} {w0 : World} {ρ : Env} {H : List Chunk} {C : Env → List Chunk → Prop}

theorem st_callm {f d : Nat} {xs : List Operand} {vs : List Value} {ts : Array TypeId} {ty : TypeId} {pos : String} {aft : Array Edge} {gd : Option (Nat × Bool)}
    {β : Type} {c : Chunk} {val : β → Value} {R : β → Prop} {c' : β → Chunk} {H' : β → List Chunk}
    (hc : ∀ w, Mem w0 H w → c.φ w → (∀ k, c.fp k → k < w.heap.size) → Calls P f vs.toArray w (Mut c val R c' w))
    (hh : Has H c := by repeat (first | exact Has.head | apply Has.tail)) (hu : ∀ r, Upd H c (c' r) (H' r) := by intro r; repeat (first | exact Upd.head | apply Upd.tail))
    (ha : GetsG ρ true xs vs := by repeat (first | exact GetsG.nil | (apply GetsG.cons; first | exact .plain rfl | exact .cond rfl id | exact .cond rfl gl)))
    (hd : Nat.blt d n = true := by rfl) (hf : callable P f = true := by kernel_rfl) (k : ∀ r, R r → C ((d, .v (val r)) :: ρ) (H' r)) : StepO P n w0 ⟨some d, .call { callee := .value (.func f), args := xs.toArray, argTypes := ts }, ty, pos, aft, gd⟩ ρ H C := by
  intro K Q hs w a hm ho
  unfold Oper.wp
  rw [run_call (ha.eval ho rfl) hf]
  refine (hc w hm (hh.φ hm) (fun k hk => hh.lt hm hk)).mono ?_
  rintro e w' ⟨r, rfl, hR, hφ, hfp, hfr⟩
  exact hs _ _ (k r hR) w' _ (hm.upd (hu r) hfr hφ hfp) (ho.put (by simpa [Nat.blt_eq] using hd) rfl)
end
end Go.Eng
namespace Go.Eng
open Go.RowKit
section
variable {P : Program} {n : Nat} {w0 : World} {ρ : Env} {H : List Chunk} {g : Bool}

def arr1 (P : Program) (t len : Nat) : Bool :=
  match P.underlying t with
  | some (.array m e) => m == len && oneT P e && (match P.info? e with | some i => i.size == 1 | none => false)
  | _ => false

theorem ev_index_array {x y : Operand} {t : TypeId} {k : IntKind} {cs : List Value} {i : Int} {v : Value} (len : Nat) (hi : g = true → 0 ≤ i ∧ i < (len : Int)) (hv : g = true → cs[i.toNat]? = some v)
    (hx : Gets ρ g x (.agg cs.toArray) := by first | exact .plain rfl | exact .cond rfl id | exact .cond rfl gl) (hy : Gets ρ g y (.int k i) := by first | exact .plain rfl | exact .cond rfl id | exact .cond rfl gl)
    (ht : arr1 P t len = true := by kernel_rfl) : Ev P n w0 H ρ g (.index t x y) v := by
  intro w a dst ty pos aft gd hm ho hg
  have hi' := hi hg
  have hv' := hv hg
  unfold arr1 at ht
  split at ht
  · rename_i m e hu
    simp only [Bool.and_eq_true, beq_iff_eq] at ht
    obtain ⟨⟨h1, h2⟩, h3⟩ := ht
    subst h1
    split at h3
    · rename_i ti hti
      have hsz : ti.size = 1 := by simpa using h3
      show (Instr.index t (a.eval x) (a.eval y) >>= fun v => pure (Next.value v)).run P w = _
      rw [hx.eval ho hg, hy.eval ho hg]
      refine run_value ?_
      unfold Instr.index
      show (underlying t >>= _).run P w = _
      rw [run_bind_ok (run_under hu w)]
      simp only [hi', and_self, if_true]
      rw [run_bind_ok (run_size hti w)]
      unfold part
      rw [run_bind_ok (run_isAgg_false h2 w)]
      simp [hsz, hv', go_sem]
    · cases h3
  · cases ht
end
end Go.Eng
namespace Go.Eng
open Go.RowKit
section
variable {P : Program} {n : Nat} {w0 : World} {ρ : Env} {H : List Chunk} {g : Bool}

theorem run_sliceBound {k : IntKind} {i : Int} {y : Nat} {c : BoundsCode} {w : World} (h : 0 ≤ i ∧ i ≤ (y : Int)) : (Instr.sliceBound (.int k i) y c).run P w = .ok i.toNat w := by
  unfold Instr.sliceBound
  show (if 0 ≤ i ∧ i ≤ (y : Int) then _ else _ : Sem Nat).run P w = _
  rw [if_pos h]
  rfl

/-- s[a:b] of a string. -/
theorem ev_slice_string {x lo hi : Operand} {t : TypeId} {s : ByteArray} {k k' : IntKind} {a b : Int}
    (hx : Gets ρ g x (.string s) := by first | exact .plain rfl | exact .cond rfl id | exact .cond rfl gl) (hlo : Gets ρ g lo (.int k a) := by first | exact .plain rfl | exact .cond rfl id | exact .cond rfl gl)
    (hhi : Gets ρ g hi (.int k' b) := by first | exact .plain rfl | exact .cond rfl id | exact .cond rfl gl) (ht : isStringT P t = true := by kernel_rfl)
    (hb : g = true → 0 ≤ a ∧ a ≤ b ∧ b ≤ (s.size : Int) := by first | (intro _; omega) | (intro hg; simp at hg; omega)) :
    Ev P n w0 H ρ g (.slice t x (some lo) (some hi) none) (.string (s.extract a.toNat b.toNat)) := by
  intro w act dst ty pos aft gd hm ho hg
  obtain ⟨h1, h2, h3⟩ := hb hg
  unfold isStringT at ht
  split at ht
  · rename_i hu
    show (Instr.sliceAt t (act.eval x) (some (act.eval lo)) (some (act.eval hi)) none >>= fun v => pure (Next.value v)).run P w = _
    rw [hx.eval ho hg, hlo.eval ho hg, hhi.eval ho hg]
    refine run_value ?_
    unfold Instr.sliceAt
    rw [run_bind_ok (run_under hu w)]
    show (Instr.slice t (.string s) (some (.int k a)) (some (.int k' b)) none).run P w = _
    unfold Instr.slice
    rw [run_bind_ok (run_under hu w)]
    show (Instr.sliceBounds false s.size s.size (some (.int k a)) (some (.int k' b)) none >>= _).run P w = _
    have hbd : (Instr.sliceBounds false s.size s.size (some (.int k a)) (some (.int k' b)) none).run P w = .ok (a.toNat, b.toNat, s.size) w := by
      unfold Instr.sliceBounds
      show (Instr.sliceBound (.int k' b) s.size _ >>= _).run P w = _
      rw [run_bind_ok (run_sliceBound ⟨by omega, h3⟩)]
      show (Instr.sliceBound (.int k a) b.toNat _ >>= _).run P w = _
      rw [run_bind_ok (run_sliceBound ⟨h1, by omega⟩)]
      rfl
    rw [run_bind_ok hbd]
    rfl
  · cases ht

/-- A string out of a list of bytes. -/
def bs (l : List UInt8) : ByteArray := ⟨l.toArray⟩
theorem bs_size (l : List UInt8) : (bs l).size = l.length := by simp [bs, ByteArray.size]
theorem bs_append (a b : List UInt8) : bs a ++ bs b = bs (a ++ b) := by
  apply ByteArray.ext
  simp [bs]
end
end Go.Eng
namespace Go.Eng
theorem Mem.perm {w0 w : World} {H H' : List Chunk} (hm : Mem w0 H w) (h : H.Perm H') : Mem w0 H' w :=
  ⟨hm.os, hm.tape, hm.output, hm.size, fun c hc => hm.all c (h.mem_iff.2 hc), hm.disj.perm h (fun h => h.symm)⟩
end Go.Eng

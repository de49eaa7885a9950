/- Engine, part 5: sets of strings (map[string]bool). -/
import Derived.Test.YtnihhidbiepnhaaEng4
namespace Go.Eng
open Go.RowKit

/-- A map from strings to true: the set of the strings S. -/
def kset (b : Nat) (S : List ByteArray) : Chunk where
  fp := fun k => k = b
  φ := fun w => ∃ es clock, w.heap[b]? = some (.map es clock) ∧ es.toList.map (fun e => (e.key, e.val)) = S.map (fun s => (Value.string s, Value.bool true))
  dep := fun w w' h hw => by rw [h b rfl]; exact hw

theorem bytes_beq {s r : ByteArray} : (s == r) = decide (s = r) := by
  rw [beq_toListBytes, str_beq]

instance memDec (s : ByteArray) (S : List ByteArray) : Decidable (s ∈ S) := decidable_of_iff (S.any (fun r => decide (s = r)) = true) (by simp)

theorem findNow_set (s : ByteArray) : ∀ (S : List ByteArray) (es : List MapEntry) (i : Nat), es.map (fun e => (e.key, e.val)) = S.map (fun s => (Value.string s, Value.bool true)) →
    (s ∈ S → ∃ j, Instr.findNow .string (.string s) es i = some (some (j, .bool true))) ∧ (s ∉ S → Instr.findNow .string (.string s) es i = some none)
  | [], es, i, h => by
    have : es = [] := by simpa using h
    subst this
    exact ⟨fun h => by simp at h, fun _ => rfl⟩
  | r :: S, [], i, h => by simp at h
  | r :: S, e :: es, i, h => by
    simp only [List.map_cons, List.cons.injEq, Prod.mk.injEq] at h
    obtain ⟨⟨h1, h2⟩, h3⟩ := h
    have ih := findNow_set s S es (i + 1) h3
    have hs : Instr.sameNow .string (.string s) e.key = some (decide (s = r)) := by
      rw [h1]
      show some (s == r) = _
      rw [bytes_beq]
    by_cases hr : s = r
    · constructor
      · intro _
        refine ⟨i, ?_⟩
        simp only [Instr.findNow, hs, decide_eq_true hr, h2]
      · intro hn
        exact absurd (by simp [hr]) hn
    · constructor
      · intro hm
        rcases List.mem_cons.1 hm with h | h
        · exact absurd h hr
        · obtain ⟨j, hj⟩ := ih.1 h
          exact ⟨j, by simp [Instr.findNow, hs, hr, hj]⟩
      · intro hn
        simp [Instr.findNow, hs, hr, ih.2 (fun h => hn (List.mem_cons_of_mem _ h))]

section
variable {P : Program} {n : Nat} {w0 : World} {ρ : Env} {H : List Chunk} {g : Bool} {C : Env → List Chunk → Prop}

def setT (P : Program) (t : TypeId) : Bool :=
  match P.underlying t with
  | some (.map k e) => (P.underlying k matches some .string) && (match P.info? e with | some i => (match i.zero with | some (.bool false) => true | _ => false) | none => false)
  | _ => false

theorem setT_spec {t : TypeId} (h : setT P t = true) : ∃ k e i, P.underlying t = some (.map k e) ∧ P.underlying k = some .string ∧ P.info? e = some i ∧ i.zero = some (.bool false) := by
  unfold setT at h
  split at h
  · rename_i k e hu
    simp only [Bool.and_eq_true] at h
    obtain ⟨h1, h2⟩ := h
    have hk : P.underlying k = some .string := by
      revert h1; cases P.underlying k with | none => simp | some d => cases d <;> simp
    split at h2
    · rename_i i hi
      split at h2
      · rename_i hz; exact ⟨k, e, i, hu, hk, hi, hz⟩
      · cases h2
    · cases h2
  · cases h

theorem run_getObj_map {b : Nat} {es : Array MapEntry} {clock : Nat} {w : World} (h : w.heap[b]? = some (.map es clock)) : (getObj b).run P w = .ok (.map es clock) w := by
  simp [getObj, Sem.run, h]

theorem run_checkKey_string {k : TypeId} {em : Bool} {s : ByteArray} {w : World} (hk : P.underlying k = some .string) : (Instr.checkKey em 10000 k (.string s)).run P w = .ok () w := by
  unfold Instr.checkKey
  rw [run_bind_ok (run_under hk w)]
  rfl

theorem run_findKey_set {k : TypeId} {s : ByteArray} {S : List ByteArray} {es : Array MapEntry} {w : World} (hk : P.underlying k = some .string)
    (h : es.toList.map (fun e => (e.key, e.val)) = S.map (fun s => (Value.string s, Value.bool true))) :
    (s ∈ S → ∃ j, (Instr.findKey k (.string s) es.toList).run P w = .ok (some (j, .bool true)) w) ∧ (s ∉ S → (Instr.findKey k (.string s) es.toList).run P w = .ok none w) := by
  have hf := findNow_set s S es.toList 0 h
  constructor
  · intro hm
    obtain ⟨j, hj⟩ := hf.1 hm
    refine ⟨j, ?_⟩
    unfold Instr.findKey
    rw [run_bind_ok (run_under hk w), hj]
    rfl
  · intro hm
    unfold Instr.findKey
    rw [run_bind_ok (run_under hk w), hf.2 hm]
    rfl

theorem ev_lookup_set {x y : Operand} {t b : Nat} {s : ByteArray} {S : List ByteArray} (hh : Has H (kset b S) := by repeat (first | exact Has.head | apply Has.tail))
    (hx : Gets ρ g x (.map (some b)) := by first | exact .plain rfl | exact .cond rfl id | exact .cond rfl gl) (hy : Gets ρ g y (.string s) := by first | exact .plain rfl | exact .cond rfl id | exact .cond rfl gl)
    (ht : setT P t = true := by kernel_rfl) : Ev P n w0 H ρ g (.lookup t x y false) (.bool (decide (s ∈ S))) := by
  intro w a dst ty pos aft gd hm ho hg
  obtain ⟨k, e, i, hu, hk, hi, hz⟩ := setT_spec ht
  obtain ⟨es, clock, hb, hes⟩ := hh.φ hm
  show (Instr.lookup t (a.eval x) (a.eval y) false >>= fun v => pure (Next.value v)).run P w = _
  rw [hx.eval ho hg, hy.eval ho hg]
  refine run_value ?_
  unfold Instr.lookup
  rw [run_bind_ok (run_under hu w)]
  simp only []
  rw [run_bind_ok (run_getObj_map hb)]
  show (Instr.checkKey es.isEmpty 10000 k (.string s) >>= _).run P w = _
  rw [run_bind_ok (run_checkKey_string hk)]
  have hf := run_findKey_set (w := w) (s := s) hk hes
  by_cases hs : s ∈ S
  · obtain ⟨j, hj⟩ := hf.1 hs
    rw [run_bind_ok hj]
    simp [hs, go_sem]
  · rw [run_bind_ok (hf.2 hs)]
    have hzr : (zeroValue e).run P w = .ok (.bool false) w := by
      unfold zeroValue
      rw [run_bind_ok (run_info hi w)]
      simp only [hz]
      rfl
    simp only []
    rw [run_bind_ok hzr]
    simp [hs, go_sem]

theorem st_makeMap_set {t d : Nat} {ty : TypeId} {pos : String} {aft : Array Edge} {gd : Option (Nat × Bool)}
    (k : ∀ b, C ((d, .v (.map (some b))) :: ρ) (kset b [] :: H)) (hd : Nat.blt d n = true := by rfl) : StepO P n w0 ⟨some d, .makeMap t none, ty, pos, aft, gd⟩ ρ H C := by
  intro K Q hs w a hm ho
  have hr : (execOp a.eval ⟨some d, .makeMap t none, ty, pos, aft, gd⟩).run P w = .ok (.value (.map (some w.heap.size))) (w.alloc (.map #[] 0)) := rfl
  unfold Oper.wp
  rw [hr]
  refine hs _ _ (k w.heap.size) _ _ (hm.add ⟨rfl, rfl, rfl, by simp, fun k hk _ => Below.heap_alloc w _ k hk⟩ ⟨#[], 0, ?_, rfl⟩ ?_) (ho.put (by simpa [Nat.blt_eq] using hd) rfl)
  · show (w.heap.push _)[w.heap.size]? = _
    simp
  · intro k hk
    have : k = w.heap.size := hk
    subst this
    exact ⟨Nat.le_refl _, by show w.heap.size < (w.heap.push _).size; simp⟩

theorem st_mapUpdate_set {x y z : Operand} {t b : Nat} {ty : TypeId} {pos : String} {aft : Array Edge} {gd : Option (Nat × Bool)} {s : ByteArray} {S : List ByteArray} {H' : List Chunk}
    (hn : s ∉ S) (hu : Upd H (kset b S) (kset b (S ++ [s])) H') (k : C ρ H')
    (hx : Gets ρ true x (.map (some b)) := by first | exact .plain rfl | exact .cond rfl id | exact .cond rfl gl) (hy : Gets ρ true y (.string s) := by first | exact .plain rfl | exact .cond rfl id | exact .cond rfl gl)
    (hz : Gets ρ true z (.bool true) := by first | exact .plain rfl | exact .cond rfl id | exact .cond rfl gl)
    (ht : setT P t = true := by kernel_rfl) : StepO P n w0 ⟨none, .mapUpdate t x y z, ty, pos, aft, gd⟩ ρ H C := by
  intro K Q hs w a hm ho
  obtain ⟨kt, e, i, hut, hk, hi, _⟩ := setT_spec ht
  obtain ⟨es, clock, hb, hes⟩ := hu.has.φ hm
  have hlt := hu.has.lt hm (k := b) rfl
  have hrun : (execOp a.eval ⟨none, .mapUpdate t x y z, ty, pos, aft, gd⟩).run P w = .ok .skip { w with heap := w.heap.setIfInBounds b (.map (es.push ⟨.string s, .bool true, clock⟩) (clock + 1)) } := by
    show ((Instr.mapUpdate t (a.eval x) (a.eval y) (a.eval z)) >>= fun _ => pure Next.skip).run P w = _
    rw [hx.eval ho rfl, hy.eval ho rfl, hz.eval ho rfl]
    have : (Instr.mapUpdate t (.map (some b)) (.string s) (.bool true)).run P w = .ok () { w with heap := w.heap.setIfInBounds b (.map (es.push ⟨.string s, .bool true, clock⟩) (clock + 1)) } := by
      unfold Instr.mapUpdate
      rw [run_bind_ok (run_under hut w)]
      simp only []
      rw [run_bind_ok (run_getObj_map hb)]
      simp only []
      rw [run_bind_ok (run_checkKey_string hk), run_bind_ok ((run_findKey_set (w := w) hk hes).2 hn)]
      simp [setObj, Sem.run, hb]
    rw [run_bind_ok this]
    rfl
  unfold Oper.wp
  rw [hrun]
  refine hs _ _ k _ _ (hm.upd hu ⟨rfl, rfl, rfl, by simp, fun kk _ hne => ?_⟩ ⟨_, clock + 1, by simp [hlt]; rfl, by simp [hes]⟩ ?_) ho
  · have : kk ≠ b := hne
    simp [Array.getElem?_setIfInBounds_ne (Ne.symm this)]
  · intro kk hkk
    have : kk = b := hkk
    subst this
    exact ⟨.inl rfl, by simpa using hlt⟩
end
end Go.Eng
namespace Go.Eng
open Go.RowKit
theorem ret_of {w0 w : World} {H : List Chunk} {v v' : Value} (hm : Mem w0 H w) (hv : v = v') (h : Has H (old w0) := by repeat (first | exact Has.head | apply Has.tail)) : Ret w0 v' (.returned v) w :=
  ⟨by rw [hv], hm.below h⟩
end Go.Eng

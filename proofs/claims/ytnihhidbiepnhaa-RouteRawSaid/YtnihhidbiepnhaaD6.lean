/- Engine of the decompiler, part 6: slice literals, make, stores into slices, cuts, struct values, results. -/
import Derived.Test.YtnihhidbiepnhaaD5
namespace Go.Dc
open Go.RowKit GoRep

section
variable {P : Program} {n : Nat} {κ : Ctx} {ρ : Env} {H : List Chunk} {g : Bool} {C : Env → List Chunk → Prop}

inductive GetsP (ρ : Env) (g : Bool) : List (Nat × Operand) → List (Nat × Value) → Prop
  | nil : GetsP ρ g [] []
  | cons {i : Nat} {x : Operand} {v : Value} {xs : List (Nat × Operand)} {vs : List (Nat × Value)} : Gets ρ g x v → GetsP ρ g xs vs → GetsP ρ g ((i, x) :: xs) ((i, v) :: vs)
theorem GetsP.eval {xs : List (Nat × Operand)} {vs : List (Nat × Value)} {a : Act} (h : GetsP ρ g xs vs) (ho : Ok n ρ a) (hg : g = true) : xs.map (fun p => (p.1, a.eval p.2)) = vs := by
  induction h with
  | nil => rfl
  | cons h _ ih => simp [h.eval ho hg, ih]

/-- A struct value; l: its cells. -/
theorem ev_build {t : TypeId} {parts : List (Nat × Operand)} {vs : List (Nat × Value)} (l : List Value)
    (hv : GetsP ρ g parts vs := by repeat (first | exact GetsP.nil | (apply GetsP.cons; first | exact .plain rfl | exact .cond rfl id | exact .cond rfl gl)))
    (hb : ∀ w, (Instr.build t vs.toArray).run P w = .ok (.agg l.toArray) w := by intro w; kernel_rfl) : Ev P n κ H ρ g (.build t parts.toArray) (.agg l.toArray) :=
  ev_build_of (fun hg _ ho => hv.eval ho hg) hb

/-- A slice literal. -/
theorem st_bslice {α : Type} [GoRep α] {t d len : Nat} {parts : List (Nat × Operand)} {vs : List (Nat × Value)} {ty : TypeId} {pos : String} {aft : Array Edge} {gd : Option (Nat × Bool)} (e : Nat) (es : Nat → R α) (xs : List α)
    (hok : ∀ S w, MemS S κ H w → ∀ i y, xs[i]? = some y → ok S w (es i) y)
    (k : ∀ r : SR (R α), C ((d, .v (.slice r.a xs.length r.cap)) :: ρ) (trow e r xs :: H))
    (hv : GetsP ρ true parts vs := by repeat (first | exact GetsP.nil | (apply GetsP.cons; first | exact .plain rfl | exact .cond rfl id | exact .cond rfl gl)))
    (hb : ∀ w, (Instr.buildSlice t len vs.toArray).run P w = .ok (.slice (some ⟨w.heap.size, 0, none⟩) len len) (w.alloc (.cells (encL es xs 0).toArray e)) := by intro w; kernel_rfl)
    (hlen : xs.length = len := by rfl) (hbb : Nat.ble (xs.length * GoRep.bytes α) 140737488355328 = true := by rfl)
    (hd : Nat.blt d n = true := by rfl) : StepO P n κ ⟨some d, .buildSlice t len parts.toArray, ty, pos, aft, gd⟩ ρ H C := by
  intro K Q hs w a hm ho
  subst hlen
  have e' := hv.eval ho rfl
  have hr : (execOp a.eval ⟨some d, .buildSlice t xs.length parts.toArray, ty, pos, aft, gd⟩).run P w = .ok (.value (.slice (some ⟨w.heap.size, 0, none⟩) xs.length xs.length)) (w.alloc (.cells (encL es xs 0).toArray e)) := by
    show (Instr.buildSlice t xs.length (parts.toArray.map fun (i, x) => (i, a.eval x)) >>= fun v => pure (Next.value v)).run P w = _
    refine run_value ?_
    have : (parts.toArray.map fun (i, x) => (i, a.eval x)) = vs.toArray := by rw [← e']; simp
    rw [this]
    exact hb w
  unfold Oper.wp
  rw [hr]
  obtain ⟨S, hms⟩ := hm
  have hw' : ∀ k, k < w.heap.size → (w.alloc (.cells (encL es xs 0).toArray e)).heap[k]? = w.heap[k]? := fun k hk => Below.heap_alloc w _ k hk
  refine hs _ _ (k ⟨some ⟨w.heap.size, 0, none⟩, xs.length, es⟩) _ _ ⟨S, hms.add (c := trow e ⟨some ⟨w.heap.size, 0, none⟩, xs.length, es⟩ xs) ⟨rfl, rfl, rfl, by simp, fun k hk _ => hw' k hk⟩ (fun _ h => h) (fun _ h => .inl h) (fun k hk => ?_) ⟨by simpa using hbb, .inr ⟨w.heap.size, 0, (encL es xs 0).toArray, rfl, ?_, Nat.le_refl _, ?_, ?_⟩⟩ ?_⟩ (ho.put (by simpa [Nat.blt_eq] using hd) rfl)
  · have := hms.lt k hk
    show k < (w.heap.push _).size
    simp; omega
  · show (w.heap.push _)[w.heap.size]? = _
    simp
  · simp [encL_len]
  · intro i x hx
    refine ⟨fun j v hv => ?_, GoRep.dep S w _ _ _ (fun k hk => hw' k (hms.lt k hk)) (hok S w hms i x hx)⟩
    have hj : j < GoRep.n α := by have := (List.getElem?_eq_some_iff.1 hv).1; rwa [GoRep.len] at this
    simp only [List.getElem?_toArray, Nat.zero_add]
    rw [encL_get es xs 0 i j x hx hj, Nat.zero_add]
    exact hv
  · rintro kk ⟨p, hp, rfl⟩
    cases hp
    exact ⟨Nat.le_refl _, by show w.heap.size < (w.heap.push _).size; simp, fun h => by have := hms.lt w.heap.size h; omega⟩

/-- make, for the model: m elements x0. -/
def mk {α : Type} [GoRep α] (x0 : α) (p : Int) : Option (List α) := if 0 ≤ p ∧ p * (GoRep.bytes α : Int) ≤ 140737488355328 then some (List.replicate p.toNat x0) else none

theorem madeCells_get {z : Array Value} {m i j : Nat} (hj : j < z.size) (hi : i < m) : (madeCells z (m * z.size)).toList[i * z.size + j]? = z[j]? := by
  have hlt : i * z.size + j < m * z.size := by
    have : i * z.size + z.size ≤ m * z.size := by rw [← Nat.succ_mul]; exact Nat.mul_le_mul_right _ hi
    omega
  have hmod : (i * z.size + j) % z.size = j := by rw [Nat.add_comm, Nat.add_mul_mod_self_right, Nat.mod_eq_of_lt hj]
  simp [madeCells, hlt, hmod, hj]

theorem st_make {α : Type} [GoRep α] {x y : Operand} {t d e sz by_ : Nat} {ty : TypeId} {pos : String} {aft : Array Edge} {gd : Option (Nat × Bool)} {k1 k2 : IntKind} {p : Int} {xs : List α} (x0 : α) (rz : R α)
    (hxs : mk x0 p = some xs) (hok : ∀ S w, ok S w rz x0)
    (k : ∀ r : SR (R α), (∀ i, r.es i = rz) → C ((d, .v (.slice r.a xs.length r.cap)) :: ρ) (trow e r xs :: H))
    (hx : Gets ρ true x (.int k1 p) := by first | exact .plain rfl | exact .cond rfl id | exact .cond rfl gl) (hy : Gets ρ true y (.int k2 p) := by first | exact .plain rfl | exact .cond rfl id | exact .cond rfl gl)
    (hsz : GoRep.n α = sz := by rfl) (hby : GoRep.bytes α = by_ := by rfl) (hi : rowInfo P t e sz by_ = true := by kernel_rfl) (hz : zeroT P e = some (enc rz x0) := by kernel_rfl)
    (hd : Nat.blt d n = true := by rfl) : StepO P n κ ⟨some d, .makeSlice t x y, ty, pos, aft, gd⟩ ρ H C := by
  intro K Q hs w a hm ho
  obtain ⟨hut, i, z', hi', hisz, hiby, hzz, hzs, hpos⟩ := rowInfo_spec hi
  have hz' : z'.cells.toList = enc rz x0 := by
    unfold zeroT at hz
    rw [hi'] at hz
    simpa [hzz] using hz
  unfold mk at hxs
  split at hxs
  · rename_i hp
    simp at hxs
    subst hxs
    have hpn : p = ((p.toNat : Nat) : Int) := by omega
    have hb47 : p.toNat * by_ ≤ 140737488355328 := by
      have h2 := hp.2
      rw [hpn, ← Int.natCast_mul, hby] at h2
      omega
    have hbp := GoRep.bpos (α := α)
    have hm47 : p.toNat ≤ 140737488355328 := by
      have : p.toNat * 1 ≤ p.toNat * by_ := Nat.mul_le_mul_left _ (by omega)
      omega
    obtain ⟨w', hr, hown, hgr⟩ := run_make_full (P := P) w 0 t e i z' sz hut hi' hzz hisz k1 k2 p.toNat (by rw [hiby, Nat.mul_comm]; omega) (by simp only [maxLen]; omega) (Nat.zero_le _)
    have hrun : (execOp a.eval ⟨some d, .makeSlice t x y, ty, pos, aft, gd⟩).run P w = .ok (.value (.slice (some ⟨w.heap.size, 0, none⟩) p.toNat p.toNat)) w' := by
      show (Instr.makeSlice t (a.eval x) (a.eval y) >>= fun v => pure (Next.value v)).run P w = _
      rw [hx.eval ho rfl, hy.eval ho rfl, hpn]
      exact run_value hr
    unfold Oper.wp
    rw [hrun]
    obtain ⟨S, hms⟩ := hm
    have hw' : ∀ k, k < w.heap.size → w'.heap[k]? = w.heap[k]? := fun k hk => hgr.block k hk (by simp)
    rcases hown.2 with ⟨h0, _⟩ | ⟨gb, cap', cur, hv, _, hgb, hnc, _, hcs, htake⟩
    · cases h0
    · simp only [Value.slice.injEq, Option.some.injEq, Addr.mk.injEq] at hv
      obtain ⟨⟨hgbe, _⟩, _, hcape⟩ := hv
      subst hgbe
      have hv2 : (.slice (some ⟨w.heap.size, 0, none⟩) p.toNat p.toNat : Value) = .slice (⟨some ⟨w.heap.size, 0, none⟩, p.toNat, fun _ => rz⟩ : SR (R α)).a (List.replicate p.toNat x0).length (⟨some ⟨w.heap.size, 0, none⟩, p.toNat, fun _ => rz⟩ : SR (R α)).cap := by
        rw [List.length_replicate]
      have hgsz := hgr.size
      refine hs _ _ (k ⟨some ⟨w.heap.size, 0, none⟩, p.toNat, fun _ => rz⟩ (fun _ => rfl)) w' _ ⟨S, hms.add (c := trow e ⟨some ⟨w.heap.size, 0, none⟩, p.toNat, fun _ => rz⟩ (List.replicate p.toNat x0)) ⟨hgr.os, hgr.tape, hgr.output, hgsz, fun kk hk _ => hw' kk hk⟩ (fun _ h => h) (fun _ h => .inl h) (fun k hk => ?_) ⟨by rw [List.length_replicate, hby]; exact hb47, .inr ⟨w.heap.size, 0, cur, rfl, hgb, by rw [List.length_replicate]; exact Nat.le_refl _, ?_, ?_⟩⟩ ?_⟩ (ho.put (by simpa [Nat.blt_eq] using hd) (congrArg some hv2))
      · exact Nat.lt_of_lt_of_le (hms.lt k hk) hgsz
      · rw [hcs, hsz, ← hcape]; show 0 + p.toNat * sz ≤ _; omega
      · intro q u hq
        rw [List.getElem?_replicate] at hq
        split at hq
        · rename_i hqlt
          simp at hq
          subst hq
          refine ⟨fun j v hv => ?_, hok S w'⟩
          have hj : j < GoRep.n α := by have := (List.getElem?_eq_some_iff.1 hv).1; rwa [GoRep.len] at this
          have hjz : j < z'.cells.size := by rw [hzs, ← hsz]; exact hj
          have hg2 := madeCells_get (z := z'.cells) (m := p.toNat) hjz hqlt
          rw [hzs] at hg2
          rw [← htake] at hg2
          rw [List.getElem?_take] at hg2
          have hlt : q * sz + j < p.toNat * sz := by
            have : q * sz + sz ≤ p.toNat * sz := by rw [← Nat.succ_mul]; exact Nat.mul_le_mul_right _ hqlt
            omega
          rw [if_pos hlt] at hg2
          rw [Nat.zero_add, hsz]
          have e1 : cur[q * sz + j]? = z'.cells[j]? := by simpa using hg2
          rw [e1]
          rw [← hz'] at hv
          simpa using hv
        · cases hq
      · rintro kk ⟨p', hp', rfl⟩
        cases hp'
        refine ⟨Nat.le_refl _, ?_, fun h => by have := hms.lt w.heap.size h; omega⟩
        exact (hown.lt w.heap.size rfl).2
  · cases hxs

theorem setAll_len : ∀ (vs l : List Value) (o : Nat), (setAll l o vs).length = l.length
  | [], _, _ => rfl
  | v :: vs, l, o => by simp only [setAll]; rw [setAll_len vs]; simp
theorem setAll_get_out : ∀ (vs l : List Value) (o q : Nat), (q < o ∨ o + vs.length ≤ q) → (setAll l o vs)[q]? = l[q]?
  | [], _, _, _, _ => rfl
  | v :: vs, l, o, q, h => by
    simp only [setAll]
    rw [setAll_get_out vs _ _ _ (by simp at h; omega)]
    rw [List.getElem?_set_ne (by simp at h; omega)]
theorem setAll_get_in : ∀ (vs l : List Value) (o q : Nat), q < vs.length → o + vs.length ≤ l.length → (setAll l o vs)[o + q]? = vs[q]?
  | [], _, _, _, h, _ => by simp at h
  | v :: vs, l, o, 0, _, hl => by
    simp only [setAll, Nat.add_zero]
    rw [setAll_get_out vs _ _ _ (.inl (by omega))]
    rw [List.getElem?_set_self (by simp at hl; omega)]
    rfl
  | v :: vs, l, o, q + 1, h, hl => by
    simp only [setAll]
    have := setAll_get_in vs (l.set o v) (o + 1) q (by simpa using h) (by simp at hl ⊢; omega)
    rw [show o + (q + 1) = o + 1 + q by omega, this]
    simp

/-- A store into an element of a slice of the call's own: cells vs from the element's cell j on; y' is the new element. -/
theorem st_set {α : Type} [GoRep α] {x y : Operand} {t e : Nat} {ty : TypeId} {pos : String} {aft : Array Edge} {gd : Option (Nat × Bool)} {r : SR (R α)} {xs : List α} {i : Int} {u : α} {o m : Nat} {v : Value} {vs : List Value} {H' : List Chunk}
    (j : Nat) (u' : α) (hi : idx xs i = some u) (henc : enc (r.es i.toNat) u' = setAll (enc (r.es i.toNat) u) j vs) (hok : ∀ S w, ok S w (r.es i.toNat) u → ok S w (r.es i.toNat) u')
    (hu : Upd H (trow e r xs) (trow e r (xs.set i.toNat u')) H') (k : C ρ H')
    (hx : Gets ρ true x (.pointer (some ⟨sb r.a, o, none⟩)) := by first | exact .plain rfl | exact .cond rfl id | exact .cond rfl gl) (hy : Gets ρ true y v := by first | exact .plain rfl | exact .cond rfl id | exact .cond rfl gl)
    (hvs : v.cells = vs.toArray := by rfl) (hlen : vs.length = m := by rfl) (h10 : vs.all Value.oneCell' = true := by rfl)
    (ho' : o = so r.a + (i.toNat * GoRep.n α + j) := by first | rfl | (show _ = _ + (_ * (_ : Nat) + _); omega)) (hj0 : Nat.ble (j + m) (GoRep.n α) = true := by rfl)
    (ht : P.cellsOf t = m := by kernel_rfl) (hti : (P.info? t).isSome = true := by kernel_rfl) : StepO P n κ ⟨none, .store t x y, ty, pos, aft, gd⟩ ρ H C := by
  have hj : j + m ≤ GoRep.n α := by simpa [Nat.ble_eq] using hj0
  intro K Q hs w a hm ho
  obtain ⟨hi0, hilt, hget⟩ := idx_some hi
  obtain ⟨S, hms⟩ := hm
  have hφ := hu.has.φ hms
  have hin := (hms.all _ hu.has.mem).2
  have e1 := hx.eval ho rfl
  have e2 := hy.eval ho rfl
  rcases hφ.2 with ⟨_, h0, _⟩ | ⟨gb, off, cur, ha, hgb, h3, h4, h5⟩
  · subst h0; simp at hilt; omega
  · rw [ha] at e1
    have hoff : o = off + (i.toNat * GoRep.n α + j) := by rw [ho', ha]; rfl
    have e1' : a.eval x = .pointer (some ⟨gb, o, none⟩) := e1
    have hfit : o + 0 + vs.length ≤ cur.size := by
      have : i.toNat * GoRep.n α + GoRep.n α ≤ r.cap * GoRep.n α := by rw [← Nat.succ_mul]; exact Nat.mul_le_mul_right _ (by omega)
      omega
    have hst := run_storeCells_at P gb o e vs 0 cur w hgb hfit (List.all_eq_true.1 h10)
    simp only [Nat.add_zero] at hst
    cases hinf : P.info? t with
    | none => rw [hinf] at hti; cases hti
    | some ti =>
      have hsz : ti.size = m := by simpa [Program.cellsOf, hinf] using ht
      have hrun : (execOp a.eval ⟨none, .store t x y, ty, pos, aft, gd⟩).run P w = .ok .skip (w.setRow gb (cur.toList.take o ++ vs ++ cur.toList.drop (o + vs.length)).toArray) := by
        show ((Instr.storeAt t (a.eval x) (a.eval y)) >>= fun _ => pure Next.skip).run P w = _
        rw [e1', e2]
        have : (Instr.storeAt t (.pointer (some ⟨gb, o, none⟩)) v).run P w = .ok () (w.setRow gb (cur.toList.take o ++ vs ++ cur.toList.drop (o + vs.length)).toArray) := by
          show (storeVar t ⟨gb, o, none⟩ v).run P w = _
          unfold storeVar
          rw [run_bind_ok (run_size hinf w), hvs]
          have hsz2 : ¬ (vs.toArray.size ≠ ti.size) := by simp [hlen, hsz]
          simp only [hsz2, if_false]
          exact hst
        rw [run_bind_ok this]
        rfl
      unfold Oper.wp
      rw [hrun]
      have hcl : cur.toList.length = cur.size := Array.length_toList
      have hpre : (cur.toList.take o).length = o := by rw [List.length_take, hcl]; omega
      have hne : ∀ k, k ≠ gb → (w.setRow gb (cur.toList.take o ++ vs ++ cur.toList.drop (o + vs.length)).toArray).heap[k]? = w.heap[k]? := fun k hk => by
        simp [World.setRow, Array.getElem?_modify, Ne.symm hk]
      refine hs _ _ k _ _ ⟨S, hms.upd hu ⟨rfl, rfl, rfl, by simp [World.setRow], fun kk _ hn => hne kk (fun h => hn ⟨_, ha, h⟩)⟩ (fun _ h => h) (fun _ h => .inl h) (fun k hk => by simpa [World.setRow] using hms.lt k hk) ⟨by rw [List.length_set]; exact hφ.1, .inr ⟨gb, off, _, ha, setRow_heap w gb cur _ e (0, 0) hgb, by rw [List.length_set]; exact h3, ?_, ?_⟩⟩ ?_⟩ ho
      · simp only [List.size_toArray, List.length_append, hpre, List.length_drop, hcl]
        omega
      · intro q z hq
        have hSne : ∀ k, S k → (w.setRow gb (cur.toList.take o ++ vs ++ cur.toList.drop (o + vs.length)).toArray).heap[k]? = w.heap[k]? := fun k hk => hne k (fun h => by subst h; exact (hin k ⟨_, ha, rfl⟩).2.1 hk)
        have cells : ∀ c, (cur.toList.take o ++ vs ++ cur.toList.drop (o + vs.length))[c]? = if c < o then cur[c]? else if c < o + vs.length then vs[c - o]? else cur[c]? := fun c => by
          by_cases hc : c < o
          · rw [if_pos hc, List.append_assoc, List.getElem?_append_left (by omega), List.getElem?_take, if_pos hc]; simp
          · rw [if_neg hc, List.append_assoc, List.getElem?_append_right (by omega), hpre]
            by_cases hc2 : c < o + vs.length
            · rw [if_pos hc2, List.getElem?_append_left (by omega)]
            · rw [if_neg hc2, List.getElem?_append_right (by omega), List.getElem?_drop]
              rw [show o + vs.length + (c - o - vs.length) = c by omega]; simp
        by_cases hqi : q = i.toNat
        · subst hqi
          rw [List.getElem?_set_self (by omega)] at hq
          cases hq
          refine ⟨fun j' v' hv' => ?_, GoRep.dep S w _ _ _ hSne (hok S w (h5 _ u hget).2)⟩
          have hj' : j' < GoRep.n α := by have := (List.getElem?_eq_some_iff.1 hv').1; rwa [GoRep.len] at this
          simp only [List.getElem?_toArray]
          rw [cells]
          rw [henc] at hv'
          by_cases hin' : j ≤ j' ∧ j' < j + vs.length
          · have e3 : j' = j + (j' - j) := by omega
            rw [e3, setAll_get_in vs _ j (j' - j) (by omega) (by rw [GoRep.len]; omega)] at hv'
            rw [if_neg (by omega), if_pos (by omega)]
            rw [show off + (i.toNat * GoRep.n α + j') - o = j' - j by omega]
            exact hv'
          · rw [setAll_get_out vs _ j j' (by omega)] at hv'
            have := (h5 _ u hget).1 j' v' hv'
            by_cases hc : off + (i.toNat * GoRep.n α + j') < o
            · rw [if_pos hc]; exact this
            · rw [if_neg hc, if_neg (by omega)]; exact this
        · rw [List.getElem?_set_ne (Ne.symm hqi)] at hq
          refine ⟨fun j' v' hv' => ?_, GoRep.dep S w _ _ _ hSne (h5 q z hq).2⟩
          have hj' : j' < GoRep.n α := by have := (List.getElem?_eq_some_iff.1 hv').1; rwa [GoRep.len] at this
          have := (h5 q z hq).1 j' v' hv'
          simp only [List.getElem?_toArray]
          rw [cells]
          rcases Nat.lt_or_gt_of_ne hqi with hlt | hgt
          · have : q * GoRep.n α + GoRep.n α ≤ i.toNat * GoRep.n α := by rw [← Nat.succ_mul]; exact Nat.mul_le_mul_right _ hlt
            rw [if_pos (by omega)]; assumption
          · have : i.toNat * GoRep.n α + GoRep.n α ≤ q * GoRep.n α := by rw [← Nat.succ_mul]; exact Nat.mul_le_mul_right _ hgt
            rw [if_neg (by omega), if_neg (by omega)]; assumption
      · rintro kk ⟨p, hp, rfl⟩
        have := hin p.block ⟨p, hp, rfl⟩
        exact ⟨.inl ⟨p, hp, rfl⟩, by simpa [World.setRow] using this.1, this.2.1⟩
end
end Go.Dc

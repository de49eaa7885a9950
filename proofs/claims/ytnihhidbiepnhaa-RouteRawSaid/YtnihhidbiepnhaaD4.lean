/- Engine of the decompiler, part 4: strings, conversions, calls that only compute, the rules that change what is known. -/
import Derived.Test.YtnihhidbiepnhaaD3
namespace Go.Dc
open Go.RowKit GoRep

section
variable {P : Program} {n : Nat} {κ : Ctx} {ρ : Env} {H : List Chunk} {g : Bool} {C : Env → List Chunk → Prop}

/-! ### Strings -/

theorem ev_slen {x : Operand} {t : TypeId} {s : Str} (hx : Gets ρ g x (.string s.ba) := by first | exact .plain rfl | exact .cond rfl id | exact .cond rfl gl) (ht : isStringT P t = true := by kernel_rfl) :
    Ev P n κ H ρ g (.call { callee := .builtin .len, args := #[x], argTypes := #[t] }) (.int .i64 (s.l.length : Int)) := by
  have := ev_len_str (P := P) (n := n) (κ := κ) (H := H) hx ht
  rw [Str.ba_size] at this
  exact this

theorem ev_sidx {x y : Operand} {t : TypeId} {s : Str} {k : IntKind} {i b : Int} (hb : g = true → byteAt s i = some b)
    (hx : Gets ρ g x (.string s.ba) := by first | exact .plain rfl | exact .cond rfl id | exact .cond rfl gl) (hy : Gets ρ g y (.int k i) := by first | exact .plain rfl | exact .cond rfl id | exact .cond rfl gl)
    (ht : isStringT P t = true := by kernel_rfl) :
    Ev P n κ H ρ g (.index t x y) (.int .u8 b) := by
  intro w a dst ty pos aft gd hm ho hg
  have e1 := hx.eval ho hg
  have e2 := hy.eval ho hg
  obtain ⟨h0, hlt, u, hu, rfl⟩ := byteAt_some (hb hg)
  unfold isStringT at ht
  split at ht
  · rename_i hut
    show (Instr.index t (a.eval x) (a.eval y) >>= fun v => pure (Next.value v)).run P w = _
    rw [e1, e2]
    refine run_value ?_
    unfold Instr.index
    show (underlying t >>= _).run P w = _
    rw [run_bind_ok (run_under hut w)]
    have hlt' : i.toNat < s.ba.size := by rw [Str.ba_size]; omega
    have hget : s.ba[i.toNat]? = some (s.ba[i.toNat]'hlt') := by simp [hlt']
    simp only [h0, if_true, hget]
    have : s.ba[i.toNat]'hlt' = u := by
      have h1 : s.l[i.toNat]'(by omega) = u := by
        have := (List.getElem?_eq_some_iff.1 hu).2
        exact this
      rw [← h1]
      rfl
    rw [this]
    rfl
  · cases ht

theorem toList_inj {s r : ByteArray} (h : s.toList = r.toList) : s = r := by
  rw [ByteArray.toList_eq, ByteArray.toList_eq] at h
  exact ByteArray.ext (Array.toList_inj.1 h)
theorem str_beq {s r : ByteArray} : (s.toList == r.toList) = decide (s = r) := by
  by_cases e : s = r
  · simp [e]
  · have : s.toList ≠ r.toList := fun h => e (toList_inj h)
    simp [e, this]
theorem str_dec {s r : Str} : decide (s.ba = r.ba) = decide (s = r) := by
  by_cases e : s = r
  · simp [e]
  · have : s.ba ≠ r.ba := fun h => e (Str.ba_inj h)
    simp [e, this]

theorem ev_str_eql {x y : Operand} {t u : TypeId} {s r : Str}
    (hx : Gets ρ g x (.string s.ba) := by first | exact .plain rfl | exact .cond rfl id | exact .cond rfl gl) (hy : Gets ρ g y (.string r.ba) := by first | exact .plain rfl | exact .cond rfl id | exact .cond rfl gl) :
    Ev P n κ H ρ g (.binOp .eql t x y u) (.bool (decide (s = r))) := by
  intro w a dst ty pos aft gd hm ho hg
  simp only [execOp, hx.eval ho hg, hy.eval ho hg]
  show Result.ok (Next.value (.bool (s.ba.toList == r.ba.toList))) w = _
  rw [str_beq, str_dec]
theorem ev_str_neq {x y : Operand} {t u : TypeId} {s r : Str}
    (hx : Gets ρ g x (.string s.ba) := by first | exact .plain rfl | exact .cond rfl id | exact .cond rfl gl) (hy : Gets ρ g y (.string r.ba) := by first | exact .plain rfl | exact .cond rfl id | exact .cond rfl gl) :
    Ev P n κ H ρ g (.binOp .neq t x y u) (.bool (!decide (s = r))) := by
  intro w a dst ty pos aft gd hm ho hg
  simp only [execOp, hx.eval ho hg, hy.eval ho hg]
  show Result.ok (Next.value (.bool (!(s.ba.toList == r.ba.toList)))) w = _
  rw [str_beq, str_dec]

theorem ev_scat {x y : Operand} {t u : TypeId} {s r q : Str} (hq : g = true → strCat s r = some q)
    (hx : Gets ρ g x (.string s.ba) := by first | exact .plain rfl | exact .cond rfl id | exact .cond rfl gl) (hy : Gets ρ g y (.string r.ba) := by first | exact .plain rfl | exact .cond rfl id | exact .cond rfl gl) :
    Ev P n κ H ρ g (.binOp .add t x y u) (.string q.ba) := by
  intro w a dst ty pos aft gd hm ho hg
  simp only [execOp, hx.eval ho hg, hy.eval ho hg]
  have h := hq hg
  unfold strCat at h
  split at h
  · rename_i hl
    simp at h
    subst h
    show (Sem.bind (if ((s.ba.size + r.ba.size : Nat) : Int) > IntKind.i64.max then _ else _) _).run P w = _
    have h' : ¬ (((s.ba.size + r.ba.size : Nat) : Int) > IntKind.i64.max) := by
      have : IntKind.i64.max = 9223372036854775807 := rfl
      rw [this, Str.ba_size, Str.ba_size]; omega
    rw [if_neg h']
    have : s.ba ++ r.ba = (⟨s.l ++ r.l⟩ : Str).ba := by
      apply ByteArray.ext
      simp [Str.ba]
    show Result.ok (Next.value (.string (s.ba ++ r.ba))) w = _
    rw [this]
  · cases h

theorem run_sliceBound {k : IntKind} {i : Int} {y : Nat} {c : BoundsCode} {w : World} (h : 0 ≤ i ∧ i ≤ (y : Int)) : (Instr.sliceBound (.int k i) y c).run P w = .ok i.toNat w := by
  unfold Instr.sliceBound
  show (if 0 ≤ i ∧ i ≤ (y : Int) then _ else _ : Sem Nat).run P w = _
  rw [if_pos h]
  rfl

theorem str_extract (s : Str) (a b : Nat) : s.ba.extract a b = (⟨(s.l.take b).drop a⟩ : Str).ba := by
  apply ByteArray.ext
  simp [Str.ba, List.drop_take]

/-- An operand that may be absent. -/
inductive GetsO (ρ : Env) (g : Bool) : Option Operand → Option (IntKind × Int) → Prop
  | none : GetsO ρ g none none
  | some {x : Operand} {k : IntKind} {i : Int} : Gets ρ g x (.int k i) → GetsO ρ g (some x) (some (k, i))
def oval (o : Option (IntKind × Int)) (d : Int) : Int := match o with | some p => p.2 | none => d
theorem GetsO.eval {x : Option Operand} {o : Option (IntKind × Int)} {a : Act} (h : GetsO ρ g x o) (ho : Ok n ρ a) (hg : g = true) : x.map a.eval = o.map (fun p => Value.int p.1 p.2) := by
  cases h with
  | none => rfl
  | some h => simp [h.eval ho hg]

theorem run_bounds {sl : Bool} {len cap : Nat} {lo hi : Option (IntKind × Int)} {w : World} (h : 0 ≤ oval lo 0 ∧ oval lo 0 ≤ oval hi len ∧ oval hi len ≤ cap) :
    (Instr.sliceBounds sl len cap (lo.map (fun p => Value.int p.1 p.2)) (hi.map (fun p => Value.int p.1 p.2)) none).run P w = .ok ((oval lo 0).toNat, (oval hi len).toNat, cap) w := by
  unfold Instr.sliceBounds
  cases hi with
  | none =>
    cases lo with
    | none => simp [oval]
    | some l =>
      simp only [oval, Option.map] at h ⊢
      show (Instr.sliceBound (.int l.1 l.2) len _ >>= _).run P w = _
      rw [run_bind_ok (run_sliceBound ⟨h.1, h.2.1⟩)]
      simp
  | some u =>
    simp only [oval, Option.map] at h ⊢
    show (Instr.sliceBound (.int u.1 u.2) cap _ >>= _).run P w = _
    rw [run_bind_ok (run_sliceBound ⟨by omega, h.2.2⟩)]
    cases lo with
    | none => simp
    | some l =>
      simp only [] at h ⊢
      show (Instr.sliceBound (.int l.1 l.2) u.2.toNat _ >>= _).run P w = _
      rw [run_bind_ok (run_sliceBound ⟨h.1, by omega⟩)]
      rfl

/-- s[a:b] of a string. -/
theorem ev_ssub {x : Operand} {lo hi : Option Operand} {t : TypeId} {s q : Str} {ol oh : Option (IntKind × Int)} (hq : g = true → strSub s (oval ol 0) (oval oh s.l.length) = some q)
    (hx : Gets ρ g x (.string s.ba) := by first | exact .plain rfl | exact .cond rfl id | exact .cond rfl gl)
    (hlo : GetsO ρ g lo ol := by first | exact .none | exact .some (.plain rfl) | exact .some (.cond rfl id) | exact .some (.cond rfl gl))
    (hhi : GetsO ρ g hi oh := by first | exact .none | exact .some (.plain rfl) | exact .some (.cond rfl id) | exact .some (.cond rfl gl)) (ht : isStringT P t = true := by kernel_rfl) :
    Ev P n κ H ρ g (.slice t x lo hi none) (.string q.ba) := by
  intro w act dst ty pos aft gd hm ho hg
  have h := hq hg
  unfold strSub at h
  split at h
  · rename_i hb
    simp at h
    subst h
    unfold isStringT at ht
    split at ht
    · rename_i hu
      show (Instr.sliceAt t (act.eval x) (lo.map act.eval) (hi.map act.eval) none >>= fun v => pure (Next.value v)).run P w = _
      rw [hx.eval ho hg, hlo.eval ho hg, hhi.eval ho hg]
      refine run_value ?_
      unfold Instr.sliceAt
      rw [run_bind_ok (run_under hu w)]
      show (Instr.slice t (.string s.ba) _ _ none).run P w = _
      unfold Instr.slice
      rw [run_bind_ok (run_under hu w)]
      show (Instr.sliceBounds false s.ba.size s.ba.size _ _ none >>= _).run P w = _
      rw [Str.ba_size, run_bind_ok (run_bounds (by exact hb))]
      show Result.ok (Value.string (s.ba.extract _ _)) w = _
      rw [str_extract]
    · cases ht
  · cases h

theorem ev_bool_eql {x y : Operand} {t u : TypeId} {p q : Bool} (hx : Gets ρ g x (.bool p) := by first | exact .plain rfl | exact .cond rfl id | exact .cond rfl gl) (hy : Gets ρ g y (.bool q) := by first | exact .plain rfl | exact .cond rfl id | exact .cond rfl gl)
    (ht : P.underlying t = some .bool := by kernel_rfl) : Ev P n κ H ρ g (.binOp .eql t x y u) (.bool (p == q)) := by
  intro w a dst ty pos aft gd hm ho hg
  simp only [execOp, hx.eval ho hg, hy.eval ho hg]
  refine run_value ?_
  show (Op.equal t (.bool p) (.bool q) >>= fun b => pure (Value.bool b)).run P w = _
  have : (Op.equal t (.bool p) (.bool q)).run P w = .ok (p == q) w := by
    unfold Op.equal Op.maxDepth Op.equalIn
    rw [run_bind_ok (run_under ht w)]
    rfl
  rw [run_bind_ok this]
  rfl
theorem ev_bool_neq {x y : Operand} {t u : TypeId} {p q : Bool} (hx : Gets ρ g x (.bool p) := by first | exact .plain rfl | exact .cond rfl id | exact .cond rfl gl) (hy : Gets ρ g y (.bool q) := by first | exact .plain rfl | exact .cond rfl id | exact .cond rfl gl)
    (ht : P.underlying t = some .bool := by kernel_rfl) : Ev P n κ H ρ g (.binOp .neq t x y u) (.bool (!(p == q))) := by
  intro w a dst ty pos aft gd hm ho hg
  simp only [execOp, hx.eval ho hg, hy.eval ho hg]
  refine run_value ?_
  show (Op.equal t (.bool p) (.bool q) >>= fun b => pure (Value.bool !b)).run P w = _
  have : (Op.equal t (.bool p) (.bool q)).run P w = .ok (p == q) w := by
    unfold Op.equal Op.maxDepth Op.equalIn
    rw [run_bind_ok (run_under ht w)]
    rfl
  rw [run_bind_ok this]
  rfl
theorem ev_nilcheck {x : Operand} {p : Addr} (hx : Gets ρ g x (.pointer (some p)) := by first | exact .plain rfl | exact .cond rfl id | exact .cond rfl gl) : Ev P n κ H ρ g (.nilCheck x) (.pointer (some p)) := by
  intro w a dst ty pos aft gd hm ho hg
  simp only [execOp, hx.eval ho hg]
  rfl
theorem ev_convert_int {x : Operand} {s d : TypeId} {k : IntKind} {p : Int} (k' : IntKind) (hx : Gets ρ g x (.int k p) := by first | exact .plain rfl | exact .cond rfl id | exact .cond rfl gl) (ht : P.underlying d = some (.int k') := by kernel_rfl) (hs : (P.underlying s).isSome = true := by kernel_rfl) :
    Ev P n κ H ρ g (.convert s d x) (.int k' (k'.wrap p)) := by
  intro w a dst ty pos aft gd hm ho hg
  cases hu : P.underlying s with
  | none => rw [hu] at hs; cases hs
  | some ds =>
    show (convert s d (a.eval x) >>= fun v => pure (Next.value v)).run P w = _
    rw [hx.eval ho hg]
    refine run_value ?_
    unfold convert
    rw [run_bind_ok (run_under hu w), run_bind_ok (run_under ht w)]
    cases ds <;> rfl
def fieldOne (P : Program) (t i : Nat) : Bool :=
  match P.underlying t with
  | some (.struct fs) => (match fs[i]? with | some f => oneT P f.type | none => false)
  | _ => false
/-- One field of a struct value. -/
theorem ev_field {x : Operand} {t i off : Nat} {l : List Value} {v : Value} (hx : Gets ρ g x (.agg l.toArray) := by first | exact .plain rfl | exact .cond rfl id | exact .cond rfl gl)
    (hf : fieldOff P t i = some off := by kernel_rfl) (hv : l[off]? = some v := by rfl)
    (h1 : fieldOne P t i = true := by kernel_rfl) : Ev P n κ H ρ g (.field t x i) v := by
  intro w a dst ty pos aft gd hm ho hg
  unfold fieldOff at hf
  split at hf
  · rename_i fs hu
    split at hf
    · rename_i f hfi
      split at hf
      · rename_i ti hti
        split at hf
        · cases hf
        · simp at hf
          subst hf
          unfold fieldOne at h1
          rw [hu] at h1
          simp only [hfi] at h1
          show (Instr.field t (a.eval x) i >>= fun v => pure (Next.value v)).run P w = _
          rw [hx.eval ho hg]
          refine run_value ?_
          unfold Instr.field
          rw [run_bind_ok (run_under hu w)]
          simp only [hfi]
          show (part f.type l.toArray f.offset).run P w = _
          unfold part
          rw [run_bind_ok (run_isAgg_false h1 w)]
          simp [hv, go_sem]
      · cases hf
    · cases hf
  · cases hf

/-! ### Calls that only compute -/

/-- The contract's form for a call that leaves old memory alone: it returns v. -/
def Ret (w : World) (v : Value) (e : Ending) (w' : World) : Prop := e = .returned v ∧ Below w.heap.size w w'

inductive GetsG (ρ : Env) (g : Bool) : List Operand → List Value → Prop
  | nil : GetsG ρ g [] []
  | cons {x : Operand} {v : Value} {xs : List Operand} {vs : List Value} : Gets ρ g x v → GetsG ρ g xs vs → GetsG ρ g (x :: xs) (v :: vs)
theorem GetsG.eval {xs : List Operand} {vs : List Value} {a : Act} (h : GetsG ρ g xs vs) (ho : Ok n ρ a) (hg : g = true) : xs.map a.eval = vs := by
  induction h with
  | nil => rfl
  | cons h _ ih => simp [h.eval ho hg, ih]

theorem run_call {f : Nat} {xs : List Operand} {vs : List Value} {ts : Array TypeId} {dst : Option Tmp} {ty : TypeId} {pos : String} {aft : Array Edge} {gd : Option (Nat × Bool)} {a : Act} {w : World}
    (e : xs.map a.eval = vs) (hf : callable P f = true) :
    (execOp a.eval ⟨dst, .call { callee := .value (.func f), args := xs.toArray, argTypes := ts }, ty, pos, aft, gd⟩).run P w = .ok (.enter f vs.toArray) w := by
  simp only [execOp, resolve, List.map_toArray, e]
  show (callFunc f ((#[] ++ vs.toArray) ++ #[])).run P w = _
  rw [Array.empty_append, Array.append_empty]
  exact run_callFunc hf

theorem Mem.keepB {w w' : World} (hm : Mem κ H w) (hb : Below w.heap.size w w') : Mem κ H w' := let ⟨S, hs⟩ := hm; ⟨S, hs.keep (.of_below hb)⟩

/-- A call that returns a value and leaves all that is known as it is. -/
theorem st_callv {f d : Nat} {xs : List Operand} {vs : List Value} {v : Value} {ts : Array TypeId} {ty : TypeId} {pos : String} {aft : Array Edge} {gd : Option (Nat × Bool)}
    (hc : ∀ w, Mem κ H w → Calls P f vs.toArray w (Ret w v)) (k : C ((d, .v v) :: ρ) H)
    (ha : GetsG ρ true xs vs := by repeat (first | exact GetsG.nil | (apply GetsG.cons; first | exact .plain rfl | exact .cond rfl id | exact .cond rfl gl)))
    (hd : Nat.blt d n = true := by rfl) (hf : callable P f = true := by kernel_rfl) : StepO P n κ ⟨some d, .call { callee := .value (.func f), args := xs.toArray, argTypes := ts }, ty, pos, aft, gd⟩ ρ H C := by
  intro K Q hs w a hm ho
  unfold Oper.wp
  rw [run_call (ha.eval ho rfl) hf]
  refine (hc w hm).mono ?_
  rintro e w' ⟨rfl, hb⟩
  exact hs _ _ k w' _ (hm.keepB hb) (ho.put (by simpa [Nat.blt_eq] using hd) rfl)

theorem ow_callg {ops : Array Oper} {Q : Exit → Act → World → Prop} {rest : List Oper} {f d j : Nat} {want g : Bool} {xs : List Operand} {vs : List Value} {v : Value} {ts : Array TypeId} {ty : TypeId} {pos : String} {aft : Array Edge}
    (hg : gof ops ρ j want = some g) (hc : g = true → ∀ w, Mem κ H w → Calls P f vs.toArray w (Ret w v)) (k : OW P n κ ops Q rest ((d, .c g v) :: ρ) H)
    (ha : GetsG ρ g xs vs := by repeat (first | exact GetsG.nil | (apply GetsG.cons; first | exact .plain rfl | exact .cond rfl id | exact .cond rfl gl)))
    (hd : Nat.blt d n = true := by rfl) (hf : callable P f = true := by kernel_rfl) :
    OW P n κ ops Q (⟨some d, .call { callee := .value (.func f), args := xs.toArray, argTypes := ts }, ty, pos, aft, some (j, want)⟩ :: rest) ρ H := by
  intro w a hm ho
  have hw := wanted_of (o := ⟨some d, .call { callee := .value (.func f), args := xs.toArray, argTypes := ts }, ty, pos, aft, some (j, want)⟩) ho hg rfl
  have hd' : d < n := by simpa [Nat.blt_eq] using hd
  refine wpList_step fun K hK => ?_
  rw [hw]
  cases g with
  | false => exact hK _ _ (k w _ hm (ho.put hd' rfl))
  | true =>
    show Oper.wp _ _ _ _ _ _
    unfold Oper.wp
    rw [run_call (ha.eval ho rfl) hf]
    refine (hc rfl w hm).mono ?_
    rintro e w' ⟨rfl, hb⟩
    exact hK _ _ (k w' _ (hm.keepB hb) (ho.put hd' rfl))

/-! ### Rules that change what is known -/

theorem ow_have {ops : Array Oper} {Q : Exit → Act → World → Prop} {l : List Oper} {p : Prop} (h : ∀ w, Mem κ H w → p) (k : p → OW P n κ ops Q l ρ H) : OW P n κ ops Q l ρ H :=
  fun w a hm ho => k (h w hm) w a hm ho
theorem cw_have {c : Code} {Q : Exit → Act → World → Prop} {p : Prop} (h : ∀ w, Mem κ H w → p) (k : p → CW P n κ c Q ρ H) : CW P n κ c Q ρ H :=
  fun w a hm ho => k (h w hm) w a hm ho
theorem aw_have {ops : Array Oper} {K : Act → World → Prop} {Hs : List Chunk} {fuel : Nat} {listed : Array Bool} {p : Prop} (h : ∀ w, Mem κ H w → p)
    (k : p → AW P n κ ops K Hs fuel listed ρ H) : AW P n κ ops K Hs fuel listed ρ H := fun w a hm hs ho => k (h w hm) w a hm hs ho
theorem cw_imp {c : Code} {Q : Exit → Act → World → Prop} {H' : List Chunk} (h : ∀ w, Mem κ H w → Mem κ H' w) (k : CW P n κ c Q ρ H') : CW P n κ c Q ρ H :=
  fun w a hm ho => k w a (h w hm) ho
theorem ow_imp {ops : Array Oper} {Q : Exit → Act → World → Prop} {l : List Oper} {H' : List Chunk} (h : ∀ w, Mem κ H w → Mem κ H' w) (k : OW P n κ ops Q l ρ H') : OW P n κ ops Q l ρ H :=
  fun w a hm ho => k w a (h w hm) ho
theorem kw_imp {K : Act → World → Prop} {H' : List Chunk} (h : ∀ w, Mem κ H w → Mem κ H' w) (k : KW n κ K ρ H') : KW n κ K ρ H :=
  fun w a hm ho => k w a (h w hm) ho

/-- Where the ways through x meet again: what is known there is env g and mem g, under R g. -/
theorem cw_cut {γ : Type} {x y : Code} {Q : Exit → Act → World → Prop} (env : γ → Env) (mem : γ → List Chunk) (R : γ → Prop)
    (hx : ∀ K : Act → World → Prop, (∀ g' ρ' H', R g' → SubL (env g') ρ' → (∀ w, Mem κ H' w → Mem κ (mem g') w) → KW n κ K ρ' H') → CW P n κ x (Exit.then K Q) ρ H)
    (hy : ∀ g, R g → CW P n κ y Q (env g) (mem g)) : CW P n κ (.seq x y) Q ρ H :=
  cw_seq fun K hK => hx K fun g' _ _ hR hs hH => fun w a hm ho => hK _ _ (hy g' hR) w a (hH w hm) (ho.sub hs.sub)

/-- Chunks are picked out. -/
inductive Sel : List Chunk → Chunk → List Chunk → Prop
  | head {c : Chunk} {H : List Chunk} : Sel (c :: H) c H
  | tail {c d : Chunk} {H H' : List Chunk} : Sel H c H' → Sel (d :: H) c (d :: H')
theorem Sel.perm {H H' : List Chunk} {c : Chunk} (h : Sel H c H') : H.Perm (c :: H') := by
  induction h with
  | head => exact .refl _
  | tail _ ih => exact (List.Perm.cons _ ih).trans (List.Perm.swap _ _ _)
inductive SelL : List Chunk → List Chunk → List Chunk → Prop
  | nil {H : List Chunk} : SelL H [] H
  | cons {H H1 H' cs : List Chunk} {c : Chunk} : Sel H c H1 → SelL H1 cs H' → SelL H (c :: cs) H'
theorem SelL.perm {H H' cs : List Chunk} (h : SelL H cs H') : H.Perm (cs ++ H') := by
  induction h with
  | nil => exact .refl _
  | cons h _ ih => exact h.perm.trans (List.Perm.cons _ ih)

theorem Mem.reord {w : World} {H H' cs : List Chunk} (hm : Mem κ H w)
    (h : SelL H cs H' := by repeat (first | exact SelL.nil | (apply SelL.cons; · (repeat (first | exact Sel.head | apply Sel.tail))))) : Mem κ cs w := (hm.perm h.perm).sub (List.sublist_append_left _ _)

/-- Several chunks as one. -/
def many (cs : List Chunk) : Chunk where
  fp := fun k => ∃ c ∈ cs, c.fp k
  φ := fun S w => (∀ c ∈ cs, c.φ S w) ∧ cs.Pairwise Disj
  dep := fun S w w' h hw => ⟨fun c hc => c.dep S w w' (fun k hk => h k (hk.elim (fun hk => .inl ⟨c, hc, hk⟩) .inr)) (hw.1 c hc), hw.2⟩
  mono := fun S S' w h hw => ⟨fun c hc => c.mono S S' w h (hw.1 c hc), hw.2⟩

theorem MemS.unfold {S : Soup} {w : World} {cs H : List Chunk} (hm : MemS S κ (many cs :: H) w) : MemS S κ (cs ++ H) w := by
  have hφ := (Has.head : Has (many cs :: H) _).φ hm
  have hd := List.pairwise_cons.1 hm.disj
  refine ⟨hm.frame, hm.sub, hm.sup, hm.lt, fun c hc => ?_, ?_⟩
  · rcases List.mem_append.1 hc with hc | hc
    · exact ⟨hφ.1 c hc, fun k hk => (hm.all _ List.mem_cons_self).2 k ⟨c, hc, hk⟩⟩
    · exact hm.all c (List.mem_cons_of_mem _ hc)
  · rw [List.pairwise_append]
    exact ⟨hφ.2, hd.2, fun c hc d hdm k hk => hd.1 d hdm k ⟨c, hc, hk⟩⟩
theorem MemS.fold {S : Soup} {w : World} {cs H : List Chunk} (hm : MemS S κ (cs ++ H) w) : MemS S κ (many cs :: H) w := by
  have hd := List.pairwise_append.1 hm.disj
  refine ⟨hm.frame, hm.sub, hm.sup, hm.lt, fun c hc => ?_, ?_⟩
  · rcases List.mem_cons.1 hc with rfl | hc
    · exact ⟨⟨fun c hc => (hm.all c (List.mem_append.2 (.inl hc))).1, hd.1⟩, fun k ⟨c, hc, hk⟩ => (hm.all c (List.mem_append.2 (.inl hc))).2 k hk⟩
    · exact hm.all c (List.mem_append.2 (.inr hc))
  · rw [List.pairwise_cons]
    exact ⟨fun d hdm k ⟨c, hc, hk⟩ => hd.2.2 c hc d hdm k hk, hd.2.1⟩
end

/-! ### Calls in general -/

/-- The contract's form for a call that is handed the chunks cs, and leaves the chunks cs' r; S: the blocks that its arguments read. -/
def Post {β : Type} (S : Soup) (cs : List Chunk) (val : β → Value) (cs' : β → List Chunk) (w : World) (e : Ending) (w' : World) : Prop :=
  ∃ r S', e = .returned (val r) ∧ (many (cs' r)).φ S' w' ∧ (∀ k, (many (cs' r)).fp k → ((many cs).fp k ∨ w.heap.size ≤ k) ∧ k < w'.heap.size ∧ ¬ S' k) ∧
    (∀ k, S k → S' k) ∧ (∀ k, S' k → S k ∨ (many cs).fp k ∨ w.heap.size ≤ k) ∧ (∀ k, S' k → k < w'.heap.size) ∧ Frame (many cs).fp w w'

/-- What a call is handed: the chunks cs hold, over the soup S. -/
structure Pre (S : Soup) (cs : List Chunk) (w : World) : Prop where
  lt : ∀ k, S k → k < w.heap.size
  φ : (many cs).φ S w
  fp : ∀ k, (many cs).fp k → k < w.heap.size ∧ ¬ S k

def κof (w : World) (S : Soup) (cs : List Chunk) : Ctx := ⟨w, (many cs).fp, S⟩

theorem Pre.start {S : Soup} {cs : List Chunk} {w : World} (h : Pre S cs w) : Mem (κof w S cs) cs w :=
  ⟨S, ⟨Frame.refl _ _, fun _ h => h, fun _ h => .inl h, h.lt, fun c hc => ⟨h.φ.1 c hc, fun k hk => ⟨(h.fp k ⟨c, hc, hk⟩).1, (h.fp k ⟨c, hc, hk⟩).2, .inl ⟨c, hc, hk⟩⟩⟩, h.φ.2⟩⟩

/-- The end of a call. -/
theorem post_of {β : Type} {S : Soup} {cs H Hr : List Chunk} {w w' : World} {val : β → Value} {cs' : β → List Chunk} {v : Value} (r : β) (hm : Mem (κof w S cs) H w') (hv : v = val r)
    (hsel : SelL H (cs' r) Hr := by repeat (first | exact SelL.nil | (apply SelL.cons; · (repeat (first | exact Sel.head | apply Sel.tail))))) : Post S cs val cs' w (.returned v) w' := by
  obtain ⟨S', hs⟩ := hm
  have hp := (hs.perm hsel.perm).fold
  have h1 := hp.all _ List.mem_cons_self
  refine ⟨r, S', by rw [hv], h1.1, fun k hk => ?_, hs.sub, hs.sup, hs.lt, hs.frame⟩
  obtain ⟨a, b, c⟩ := h1.2 k hk
  exact ⟨c, a, b⟩

theorem ret_of {S : Soup} {H : List Chunk} {w w' : World} {v v' : Value} (hm : Mem (κof w S []) H w') (hv : v = v') : Ret w v' (.returned v) w' := by
  obtain ⟨S', hs⟩ := hm
  refine ⟨by rw [hv], ⟨hs.frame.os, hs.frame.tape, hs.frame.output, hs.frame.size, fun k hk => hs.frame.block k hk ?_⟩⟩
  rintro ⟨c, hc, _⟩
  simp at hc

/-- Post without anything handed or left, for the law's own end. -/
theorem Post.ret {S : Soup} {w w' : World} {e : Ending} {β : Type} {val : β → Value} {cs' : β → List Chunk} (h : Post S [] val cs' w e w') : ∃ r, e = .returned (val r) ∧ Below w.heap.size w w' := by
  obtain ⟨r, S', he, _, _, _, _, _, hf⟩ := h
  refine ⟨r, he, ⟨hf.os, hf.tape, hf.output, hf.size, fun k hk => hf.block k hk ?_⟩⟩
  rintro ⟨c, hc, _⟩
  simp at hc

/-- A chunk that does not lean on the soup. -/
def FlatC (c : Chunk) : Prop := ∀ (S S' : Soup) (w : World), c.φ S w → c.φ S' w

section
variable {P : Program} {n : Nat} {κ : Ctx} {ρ : Env} {H : List Chunk} {C : Env → List Chunk → Prop}

/-- The soup for a callee that may read all that is not handed over. -/
def lend (S : Soup) (H1 : List Chunk) : Soup := fun k => S k ∨ ∃ c ∈ H1, c.fp k

theorem callee_pre {S : Soup} {w : World} {cs H1 : List Chunk} (hm : MemS S κ (cs ++ H1) w) : Pre (lend S H1) cs w := by
  have hd := List.pairwise_append.1 hm.disj
  refine ⟨fun k hk => ?_, ⟨fun c hc => c.mono S _ w (fun _ h => .inl h) (hm.all c (List.mem_append.2 (.inl hc))).1, hd.1⟩, fun k ⟨c, hc, hk⟩ => ?_⟩
  · rcases hk with h | ⟨c, hc, h⟩
    · exact hm.lt k h
    · exact ((hm.all c (List.mem_append.2 (.inr hc))).2 k h).1
  · have h1 := (hm.all c (List.mem_append.2 (.inl hc))).2 k hk
    refine ⟨h1.1, fun h => ?_⟩
    rcases h with h | ⟨d, hd', h⟩
    · exact h1.2.1 h
    · exact hd.2.2 c hc d hd' k hk h

theorem Kn.lend {α : Type} [GoRep α] {r : R α} {x : α} {H1 : List Chunk} (h : Kn κ H1 r x) {S : Soup} {w : World} (hm : MemS S κ H1 w) : ok (lend S H1) w r x := by
  obtain ⟨L, h1, h2⟩ := h S w hm
  exact GoRep.mono _ _ w r x (fun k hk => hk.elim .inl (fun hk => .inr (h1 k hk))) h2

/-- A call that may read all, is handed cs and leaves chunks that do not lean on the soup. -/
theorem st_callF {f d : Nat} {xs : List Operand} {vs : List Value} {ts : Array TypeId} {ty : TypeId} {pos : String} {aft : Array Edge} {gd : Option (Nat × Bool)}
    {β : Type} {cs H1 : List Chunk} {val : β → Value} {cs' : β → List Chunk} (hsel : SelL H cs H1)
    (hc : ∀ S w, MemS S κ H1 w → Pre (lend S H1) cs w → Calls P f vs.toArray w (Post (lend S H1) cs val cs' w))
    (hfl : ∀ r, ∀ c ∈ cs' r, FlatC c)
    (k : ∀ r, C ((d, .v (val r)) :: ρ) (cs' r ++ H1))
    (ha : GetsG ρ true xs vs := by repeat (first | exact GetsG.nil | (apply GetsG.cons; first | exact .plain rfl | exact .cond rfl id | exact .cond rfl gl)))
    (hd : Nat.blt d n = true := by rfl) (hf : callable P f = true := by kernel_rfl) :
    StepO P n κ ⟨some d, .call { callee := .value (.func f), args := xs.toArray, argTypes := ts }, ty, pos, aft, gd⟩ ρ H C := by
  intro K Q hs w a hm ho
  obtain ⟨S, hm⟩ := hm
  unfold Oper.wp
  rw [run_call (ha.eval ho rfl) hf]
  have hp := hm.perm hsel.perm
  have h1 : MemS S κ H1 w := hp.sub' (List.sublist_append_right _ _)
  refine (hc S w h1 (callee_pre hp)).mono ?_
  rintro e w' ⟨r, S', rfl, hφ, hfp, hS1, hS2, hS3, hfr⟩
  have hcs := (hp.fold.all _ List.mem_cons_self).2
  have hd1 := (List.pairwise_cons.1 hp.fold.disj).1
  have key : ∀ k, (∃ c ∈ H1, c.fp k) → k < w.heap.size ∧ ¬ (many cs).fp k := fun k ⟨c, hc, hk⟩ =>
    ⟨((h1.all c hc).2 k hk).1, fun h => hd1 c hc k h hk⟩
  refine hs _ _ (k r) w' _ ⟨fun k => S' k ∧ ¬ (∃ c ∈ H1, c.fp k), (hp.fold.upd (c' := many (cs' r)) (S' := fun k => S' k ∧ ¬ (∃ c ∈ H1, c.fp k)) .head hfr ?_ ?_ ?_ ?_ ?_).unfold⟩ (ho.put (by simpa [Nat.blt_eq] using hd) rfl)
  · exact fun k hk => ⟨hS1 k (.inl hk), fun ⟨c, hc, h⟩ => ((h1.all c hc).2 k h).2.1 hk⟩
  · rintro k ⟨hk, hn⟩
    rcases hS2 k hk with (h | h) | h | h
    · exact .inl h
    · exact absurd h hn
    · exact .inr (.inl h)
    · exact .inr (.inr h)
  · exact fun k hk => hS3 k hk.1
  · exact ⟨fun c hc => hfl r c hc _ _ _ (hφ.1 c hc), hφ.2⟩
  · exact fun k hk => ⟨(hfp k hk).1, (hfp k hk).2.1, fun h => (hfp k hk).2.2 h.1⟩

/-- A call whose arguments all lie in the soup. -/
theorem st_callS {f d : Nat} {xs : List Operand} {vs : List Value} {ts : Array TypeId} {ty : TypeId} {pos : String} {aft : Array Edge} {gd : Option (Nat × Bool)}
    {β : Type} {cs H1 : List Chunk} {val : β → Value} {cs' : β → List Chunk} (hsel : SelL H cs H1)
    (hc : ∀ S w, MemS S κ H1 w → Pre S cs w → Calls P f vs.toArray w (Post S cs val cs' w))
    (k : ∀ r, C ((d, .v (val r)) :: ρ) (cs' r ++ H1))
    (ha : GetsG ρ true xs vs := by repeat (first | exact GetsG.nil | (apply GetsG.cons; first | exact .plain rfl | exact .cond rfl id | exact .cond rfl gl)))
    (hd : Nat.blt d n = true := by rfl) (hf : callable P f = true := by kernel_rfl) :
    StepO P n κ ⟨some d, .call { callee := .value (.func f), args := xs.toArray, argTypes := ts }, ty, pos, aft, gd⟩ ρ H C := by
  intro K Q hs w a hm ho
  obtain ⟨S, hm⟩ := hm
  unfold Oper.wp
  rw [run_call (ha.eval ho rfl) hf]
  have hp := hm.perm hsel.perm
  have h1 : MemS S κ H1 w := hp.sub' (List.sublist_append_right _ _)
  have hcs := hp.fold.all _ List.mem_cons_self
  refine (hc S w h1 ⟨hp.lt, hcs.1, fun k hk => ⟨(hcs.2 k hk).1, (hcs.2 k hk).2.1⟩⟩).mono ?_
  rintro e w' ⟨r, S', rfl, hφ, hfp, hS1, hS2, hS3, hfr⟩
  exact hs _ _ (k r) w' _ ⟨S', (hp.fold.upd (c' := many (cs' r)) .head hfr hS1 hS2 hS3 hφ hfp).unfold⟩ (ho.put (by simpa [Nat.blt_eq] using hd) rfl)
end
end Go.Dc

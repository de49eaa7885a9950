/- Engine of the decompiler, part 14: copy; calls of closures that return a value. -/
import Derived.Test.YtnihhidbiepnhaaD13
namespace Go.Dc
open Go.RowKit GoRep

theorem Str.ba_iff {s t : Str} : s.ba = t.ba ↔ s = t := ⟨Str.ba_inj, fun h => by rw [h]⟩
/-- xs with ys laid over it from lo on. -/
def cpy {α : Type} (xs : List α) (lo : Nat) (ys : List α) : List α := xs.take lo ++ ys ++ xs.drop (lo + ys.length)
/-- copy(xs[lo:lo+dl], ys). -/
def cpyM {α : Type} (xs : List α) (lo dl : Nat) (ys : List α) : Option (List α) := if lo + dl ≤ xs.length then some (cpy xs lo (ys.take dl)) else none
theorem cpy_nil {α : Type} (xs : List α) (lo : Nat) : cpy xs lo [] = xs := by simp [cpy]
theorem cpy_len {α : Type} {xs ys : List α} {lo : Nat} (h : lo + ys.length ≤ xs.length) : (cpy xs lo ys).length = xs.length := by
  simp only [cpy, List.length_append, List.length_take, List.length_drop]; omega
theorem cpyM_len {α : Type} {xs ys zs : List α} {lo dl : Nat} (h : cpyM xs lo dl ys = some zs) : zs.length = xs.length := by
  unfold cpyM at h
  split at h
  · cases h; exact cpy_len (by simp only [List.length_take]; omega)
  · cases h
theorem cpy_get {α : Type} {xs ys : List α} {lo : Nat} (h : lo + ys.length ≤ xs.length) (q : Nat) : (cpy xs lo ys)[q]? = if q < lo then xs[q]? else if q < lo + ys.length then ys[q - lo]? else xs[q]? := by
  have h1 : (xs.take lo).length = lo := by rw [List.length_take]; omega
  unfold cpy
  rw [List.append_assoc]
  by_cases a : q < lo
  · rw [if_pos a, List.getElem?_append_left (by omega), List.getElem?_take, if_pos a]
  · rw [if_neg a, List.getElem?_append_right (by omega), h1]
    by_cases b : q < lo + ys.length
    · rw [if_pos b, List.getElem?_append_left (by omega)]
    · rw [if_neg b, List.getElem?_append_right (by omega), List.getElem?_drop, show lo + ys.length + (q - lo - ys.length) = q by omega]

section
variable {P : Program}
theorem run_copy_some {w : World} (t ty e : TypeId) (i : TypeInfo) (ht : P.underlying t = some (.slice e)) (hi : P.info? e = some i)
    (gb o dl cd : Nat) (cur : Array Value) (hg : w.heap[gb]? = some (.cells cur e (0, 0))) (src : Option Addr) (mm c : Nat) (news : List Value) (hl : news.length = Nat.min mm dl * i.size)
    (hnews : ∀ j v, news[j]? = some v → src = some ⟨sb src, so src, none⟩ ∧ w.cell? ⟨sb src, so src + j, none⟩ = some v) (h1 : ∀ u ∈ news, u.oneCell' = true) (hfit : o + news.length ≤ cur.size) :
    (Builtin.copy_ #[t, t] ty #[.slice (some ⟨gb, o, none⟩) dl cd, .slice src mm c]).run P w =
      .ok (.int .i64 (Nat.min mm dl : Nat)) (w.setRow gb (cur.toList.take o ++ news ++ cur.toList.drop (o + news.length)).toArray) := by
  have hf := run_first (P := P) (w := w) (size := i.size) (m := Nat.min mm dl) (src := src) (len := mm) (cap := c) hl hnews
  have hst := run_storeCells_at P gb o e news 0 cur w hg (by simpa using hfit) h1
  simp only [Nat.add_zero] at hst
  simp [Builtin.copy_, run_underlying ht, sizeOf, typeInfo, hi, Builtin.lenOf, hf, hst, goInt]
theorem run_copy_zero {w : World} (t ty e : TypeId) (i : TypeInfo) (ht : P.underlying t = some (.slice e)) (hi : P.info? e = some i) (ba : Option Addr) (dl cd : Nat) (src : Option Addr) (mm c : Nat) (h0 : Nat.min mm dl = 0) :
    (Builtin.copy_ #[t, t] ty #[.slice ba dl cd, .slice src mm c]).run P w = .ok (.int .i64 (0 : Nat)) w := by
  have hf := run_first (P := P) (w := w) (size := i.size) (m := 0) (src := src) (len := mm) (cap := c) (cs := []) (by simp) (fun j v hv => by simp at hv)
  cases ba with
  | none => simp [Builtin.copy_, run_underlying ht, sizeOf, typeInfo, hi, Builtin.lenOf, h0, hf, goInt]
  | some a => simp [Builtin.copy_, run_underlying ht, sizeOf, typeInfo, hi, Builtin.lenOf, h0, hf, goInt, storeCells]
end

section
variable {P : Program} {n : Nat} {κ : Ctx} {ρ : Env} {H : List Chunk} {g : Bool} {C : Env → List Chunk → Prop}

theorem Kn.capL {α : Type} [GoRep α] {r : SR (R α)} {xs : List α} {w : World} (hk : Kn κ H (α := List α) r xs) (hm : Mem κ H w) : xs.length ≤ r.cap := by
  obtain ⟨S, hs⟩ := hm
  obtain ⟨L, _, h2⟩ := hk S w hs
  exact h2.1
/-- xs[lo:hi], to be read, where its capacity is known. -/
theorem ev_subc {α : Type} [GoRep α] {x : Operand} {lo hi : Option Operand} {t m : Nat} {r : SR (R α)} {xs ys : List α} {ol oh : Option (IntKind × Int)}
    (hcap : xs.length ≤ r.cap) (hq : g = true → sub xs (oval ol 0) (oval oh xs.length) = some ys)
    (hx : Gets ρ g x (.slice r.a m r.cap) := by first | exact .plain rfl | exact .cond rfl id | exact .cond rfl gl)
    (hm1 : m = xs.length := by first | rfl | simp only [List.length_set, List.length_append, List.length_replicate])
    (hlo : GetsO ρ g lo ol := by first | exact .none | exact .some (.plain rfl) | exact .some (.cond rfl id) | exact .some (.cond rfl gl))
    (hhi : GetsO ρ g hi oh := by first | exact .none | exact .some (.plain rfl) | exact .some (.cond rfl id) | exact .some (.cond rfl gl))
    (hsz : elemSize P t = some (GoRep.n α) := by kernel_rfl) :
    Ev P n κ H ρ g (.slice t x lo hi none) (.slice (r.sub (oval ol 0).toNat (GoRep.n α)).a ys.length (r.sub (oval ol 0).toNat (GoRep.n α)).cap) := by
  subst hm1
  intro w a dst ty pos aft gd hm ho hg
  show (Instr.sliceAt t (a.eval x) (lo.map a.eval) (hi.map a.eval) none >>= fun v => pure (Next.value v)).run P w = _
  rw [hx.eval ho hg, hlo.eval ho hg, hhi.eval ho hg]
  exact run_value (run_sub (hq hg) hcap hsz)

/-- A slice, or what it is from a place on. -/
def From {ρ : Type} (r : SR ρ) (lo sz : Nat) (ba : Option Addr) : Prop := ∀ gb o, r.a = some ⟨gb, o, none⟩ → r.cap ≠ lo → ba = some ⟨gb, o + lo * sz, none⟩
theorem From.all {ρ : Type} {r : SR ρ} {sz : Nat} : From r 0 sz r.a := fun gb o h _ => by rw [h]; simp
theorem From.sub {ρ : Type} {r : SR ρ} {lo sz : Nat} : From r lo sz (r.sub lo sz).a := fun gb o h hne => by
  show (if r.cap = lo then r.a else r.a.map (·.add (lo * sz))) = _
  rw [if_neg hne, h]
  simp [Addr.add_lit]

theorem encL_take {α : Type} [GoRep α] {es : Nat → R α} {ys : List α} {k j : Nat} {v : Value} (h : (encL es (ys.take k) 0)[j]? = some v) : (encL es ys 0)[j]? = some v := by
  obtain ⟨i, j', x, rfl, hj, hx, hv⟩ := encL_split es h
  have hx' : ys[i]? = some x := by
    rw [List.getElem?_take] at hx
    split at hx
    · exact hx
    · cases hx
  rw [encL_get es ys 0 i j' x hx' hj, Nat.zero_add]
  exact hv

/-- copy(dst, src): dst is a slice of the call's own, or a part of one. -/
theorem st_copy {α : Type} [GoRep α] {x y : Operand} {t e sz by_ d : Nat} {ty : TypeId} {pos : String} {aft : Array Edge} {gd : Option (Nat × Bool)} {r r2 : SR (R α)} {xs ys zs : List α} {lo dl cd m2 : Nat} {ba : Option Addr} {H' : List Chunk}
    (hu : Upd H (trow e r xs) (trow e r zs) H') (hk : Kn κ H (α := List α) r2 ys) (hq : cpyM xs lo dl ys = some zs) (hba : From r lo sz ba)
    (hfl : ∀ (S : Soup) (w : World) (q : R α) (u : α), ok S w q u) (hen : ∀ (p q : R α) (u : α), enc p u = enc q u)
    (k : C ((d, .v (.int .i64 (Nat.min ys.length dl : Nat))) :: ρ) H')
    (hx : Gets ρ true x (.slice ba dl cd) := by first | exact .plain rfl | exact .cond rfl id | exact .cond rfl gl) (hy : Gets ρ true y (.slice r2.a m2 r2.cap) := by first | exact .plain rfl | exact .cond rfl id | exact .cond rfl gl)
    (hm2 : m2 = ys.length := by first | rfl | simp only [List.length_set, List.length_append, List.length_replicate])
    (hd : Nat.blt d n = true := by rfl) (hsz : GoRep.n α = sz := by rfl) (hby : GoRep.bytes α = by_ := by rfl) (hi : rowInfo P t e sz by_ = true := by kernel_rfl) :
    StepO P n κ ⟨some d, .call { callee := .builtin .copy, args := #[x, y], argTypes := #[t, t] }, ty, pos, aft, gd⟩ ρ H C := by
  subst hm2
  intro K Q hs w act hm ho
  obtain ⟨hut, i, z, hi', hisz, hiby, hz, hzs, hpos⟩ := rowInfo_spec hi
  obtain ⟨cs, hcs⟩ := exec_builtin2 act.eval .copy x y #[t, t] (some d) ty pos aft gd
  have hnews := cells_of_kn hk hm
  obtain ⟨S, hms⟩ := hm
  have hφ := hu.has.φ hms
  have hin := (hms.all _ hu.has.mem).2
  unfold cpyM at hq
  split at hq
  case isFalse => cases hq
  rename_i hld
  have hzq : zs = cpy xs lo (ys.take dl) := by cases hq; rfl
  have hzl : zs.length = xs.length := by rw [hzq]; exact cpy_len (by simp only [List.length_take]; omega)
  by_cases h0 : Nat.min ys.length dl = 0
  · have hnil : ys.take dl = [] := List.length_eq_zero_iff.1 (by rw [List.length_take]; exact (Nat.min_comm _ _).trans h0)
    have hzx : zs = xs := by rw [hzq, hnil, cpy_nil]
    subst hzx
    unfold Oper.wp
    rw [hcs, hx.eval ho rfl, hy.eval ho rfl]
    have hr := run_value (P := P) (run_copy_zero (P := P) (w := w) t ty e i hut hi' ba dl cd r2.a ys.length r2.cap h0)
    rw [show (0 : Nat) = Nat.min ys.length dl from h0.symm] at hr
    rw [show builtin .copy #[t, t] ty cs #[.slice ba dl cd, .slice r2.a ys.length r2.cap] = (Builtin.copy_ #[t, t] ty #[.slice ba dl cd, .slice r2.a ys.length r2.cap] >>= fun v => pure (Next.value v)) from rfl, hr]
    exact hs _ _ k w _ ⟨S, hms.upd hu (Frame.refl _ w) (fun _ h => h) (fun _ h => .inl h) hms.lt hφ (fun kk hk => ⟨.inl hk, (hin kk hk).1, (hin kk hk).2.1⟩)⟩ (ho.put (by simpa [Nat.blt_eq] using hd) rfl)
  · rcases hφ.2 with ⟨ha, hxs0, hc0⟩ | ⟨gb, o, cur, ha, hgb, h3, h4, h5⟩
    · subst hxs0
      have : dl = 0 := by simp at hld; omega
      subst this
      exact absurd (Nat.min_zero _) h0
    · have hne : r.cap ≠ lo := by
        have : 0 < dl := by
          have := Nat.min_le_right ys.length dl
          have h1 : Nat.min ys.length dl ≤ dl := this
          omega
        omega
      have hb := hba gb o ha hne
      subst hb
      have hyl : (ys.take dl).length = Nat.min ys.length dl := by rw [List.length_take]; exact Nat.min_comm _ _
      have hnl : (encL r2.es (ys.take dl) 0).length = Nat.min ys.length dl * i.size := by rw [encL_len, hisz, hsz, hyl]
      have hnle : lo + (ys.take dl).length ≤ xs.length := by simp only [List.length_take]; omega
      have hfit : o + lo * sz + (encL r2.es (ys.take dl) 0).length ≤ cur.size := by
        rw [encL_len, hsz, Nat.add_assoc, ← Nat.add_mul]
        rw [hsz] at h4
        exact Nat.le_trans (Nat.add_le_add_left (Nat.mul_le_mul_right _ (by omega)) _) h4
      have hrun := run_value (P := P) (run_copy_some (P := P) (w := w) t ty e i hut hi' gb (o + lo * sz) dl cd cur hgb r2.a ys.length r2.cap (encL r2.es (ys.take dl) 0) hnl (fun j v hv => hnews j v (encL_take hv)) (encL_one _ _ _) hfit)
      unfold Oper.wp
      rw [hcs, hx.eval ho rfl, hy.eval ho rfl]
      rw [show builtin .copy #[t, t] ty cs #[.slice (some ⟨gb, o + lo * sz, none⟩) dl cd, .slice r2.a ys.length r2.cap] = (Builtin.copy_ #[t, t] ty #[.slice (some ⟨gb, o + lo * sz, none⟩) dl cd, .slice r2.a ys.length r2.cap] >>= fun v => pure (Next.value v)) from rfl, hrun]
      generalize hN : encL r2.es (ys.take dl) 0 = N at *
      have hfr : Frame (trow e r xs).fp w (w.setRow gb (cur.toList.take (o + lo * sz) ++ N ++ cur.toList.drop (o + lo * sz + N.length)).toArray) := by
        refine ⟨rfl, rfl, rfl, by simp [World.setRow], fun k _ hn => ?_⟩
        have hne : gb ≠ k := fun h => hn ⟨_, ha, h.symm⟩
        simp [World.setRow, Array.getElem?_modify, hne]
      refine hs _ _ k _ _ ⟨S, hms.upd hu hfr (fun _ h => h) (fun _ h => .inl h) (fun k hk => Nat.lt_of_lt_of_le (hms.lt k hk) hfr.size) ⟨by rw [hzl]; exact hφ.1, .inr ⟨gb, o, _, ha, setRow_heap w gb cur _ e (0, 0) hgb, by rw [hzl]; exact h3, ?_, ?_⟩⟩ ?_⟩ (ho.put (by simpa [Nat.blt_eq] using hd) rfl)
      · have hc : (cur.toList.take (o + lo * sz) ++ N ++ cur.toList.drop (o + lo * sz + N.length)).toArray.size = cur.size := by
          simp only [List.size_toArray, List.length_append, List.length_take, List.length_drop, Array.length_toList]
          omega
        rw [hc]; exact h4
      · intro q u hqu
        refine ⟨fun j v hv => ?_, hfl _ _ _ _⟩
        have hj : j < GoRep.n α := by have := (List.getElem?_eq_some_iff.1 hv).1; rwa [GoRep.len] at this
        simp only [List.getElem?_toArray]
        have hpre : (cur.toList.take (o + lo * sz)).length = o + lo * sz := by
          have hcl : cur.toList.length = cur.size := Array.length_toList
          rw [List.length_take, hcl]; omega
        have hNl : N.length = (ys.take dl).length * GoRep.n α := by rw [← hN, encL_len]
        rw [hzq, cpy_get hnle] at hqu
        have mul_lt : ∀ a b : Nat, a < b → a * GoRep.n α + j < b * GoRep.n α := fun a b hab => by
          have : a * GoRep.n α + GoRep.n α ≤ b * GoRep.n α := by rw [← Nat.succ_mul]; exact Nat.mul_le_mul_right _ hab
          omega
        rw [← hsz] at hpre ⊢
        by_cases a1 : q < lo
        · rw [if_pos a1] at hqu
          have := mul_lt q lo a1
          rw [List.append_assoc, List.getElem?_append_left (by rw [hpre]; omega), List.getElem?_take, if_pos (by omega)]
          have := (h5 q u hqu).1 j v hv
          simpa using this
        · rw [if_neg a1] at hqu
          have hle : lo * GoRep.n α ≤ q * GoRep.n α := Nat.mul_le_mul_right _ (by omega)
          by_cases a2 : q < lo + (ys.take dl).length
          · rw [if_pos a2] at hqu
            have e1 : o + (q * GoRep.n α + j) = (o + lo * GoRep.n α) + ((q - lo) * GoRep.n α + j) := by rw [Nat.sub_mul]; omega
            have hlt2 : (q - lo) * GoRep.n α + j < N.length := by rw [hNl]; exact mul_lt _ _ (by omega)
            rw [e1, List.append_assoc, List.getElem?_append_right (by rw [hpre]; omega), hpre, Nat.add_sub_cancel_left, List.getElem?_append_left hlt2, ← hN, encL_get r2.es _ 0 _ j u hqu hj, Nat.zero_add, hen _ (r.es q)]
            exact hv
          · rw [if_neg a2] at hqu
            have hle2 : (lo + (ys.take dl).length) * GoRep.n α ≤ q * GoRep.n α := Nat.mul_le_mul_right _ (by omega)
            rw [Nat.add_mul, ← hNl] at hle2
            rw [List.append_assoc, List.getElem?_append_right (by rw [hpre]; omega), hpre, List.getElem?_append_right (by omega), List.getElem?_drop]
            rw [show o + lo * GoRep.n α + N.length + (o + (q * GoRep.n α + j) - (o + lo * GoRep.n α) - N.length) = o + (q * GoRep.n α + j) by omega]
            have := (h5 q u hqu).1 j v hv
            simpa using this
      · rintro kk ⟨p, hp, rfl⟩
        have h := hin p.block ⟨p, hp, rfl⟩
        refine ⟨.inl ⟨p, hp, rfl⟩, ?_, h.2.1⟩
        have := h.1
        simpa [World.setRow] using this

/-- A closure that returns a value and leaves old memory alone. -/
theorem st_dynv {f d : Nat} {x : Operand} {xs : List Operand} {vs cap : List Value} {v : Value} {ts : Array TypeId} {ty : TypeId} {pos : String} {aft : Array Edge} {gd : Option (Nat × Bool)}
    (hc : ∀ w, Mem κ H w → Calls P f (vs ++ cap).toArray w (Ret w v)) (k : C ((d, .v v) :: ρ) H)
    (hx : Gets ρ true x (.func (.func f) #[] cap.toArray) := by first | exact .plain rfl | exact .cond rfl id | exact .cond rfl gl)
    (ha : GetsG ρ true xs vs := by repeat (first | exact GetsG.nil | (apply GetsG.cons; first | exact .plain rfl | exact .cond rfl id | exact .cond rfl gl)))
    (hd : Nat.blt d n = true := by rfl) (hf : callable P f = true := by kernel_rfl) :
    StepO P n κ ⟨some d, .call { callee := .value x, args := xs.toArray, argTypes := ts }, ty, pos, aft, gd⟩ ρ H C := by
  intro K Q hs w a hm ho
  unfold Oper.wp
  rw [run_dyn (hx.eval ho rfl) (ha.eval ho rfl) hf]
  refine (hc w hm).mono ?_
  rintro e w' ⟨rfl, hb⟩
  exact hs _ _ k w' _ (hm.keepB hb) (ho.put (by simpa [Nat.blt_eq] using hd) rfl)

theorem Ok.sameE {e e' : EV} {a : Act} {t : Nat} (h : Ok n ρ a) (hl : look ρ t = some e) (he : e = e') : Ok n ((t, e') :: ρ) a := by
  subst he
  refine ⟨h.size, h.nodef, fun u e2 he => ?_⟩
  simp only [look] at he
  by_cases hb : t = u
  · subst hb
    simp at he
    subst he
    exact h.get _ _ hl
  · have hb' : Nat.beq t u = false := beq_ne hb
    rw [hb'] at he
    exact h.get u e2 he
theorem ow_sameE {ops : Array Oper} {Q : Exit → Act → World → Prop} {rest : List Oper} {e e' : EV} (t : Nat) (hl : look ρ t = some e) (he : e = e') (k : OW P n κ ops Q rest ((t, e') :: ρ) H) : OW P n κ ops Q rest ρ H :=
  fun w a hm ho => k w a hm (ho.sameE hl he)
theorem aw_sameE {ops : Array Oper} {K : Act → World → Prop} {Hs : List Chunk} {fuel : Nat} {listed : Array Bool} {e e' : EV} (t : Nat) (hl : look ρ t = some e) (he : e = e') (k : AW P n κ ops K Hs fuel listed ((t, e') :: ρ) H) : AW P n κ ops K Hs fuel listed ρ H :=
  fun w a hm hs ho => k w a hm hs (ho.sameE hl he)
end
end Go.Dc

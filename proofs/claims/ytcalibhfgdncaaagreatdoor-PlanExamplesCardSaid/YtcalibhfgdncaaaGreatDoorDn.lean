/- Several parts of the engine, one behind the other. -/
import Derived.Test.YtcalibhfgdncaaaGreatDoorDm
import Derived.RangeFuncIn
import Derived.RangeFuncRecord
import Derived.RangeFuncLeaves
import Derived.TacticsIn
import Derived.OrdersIn
import Derived.Lib.AppendStr
import Derived.Lib.UnsafeStr
import Derived.Lib.Builder
import Derived.Lib.OthersKept
import Derived.Laws.IdiomStrings
import Derived.Lib.LaidTab
import Derived.LaidSub
set_option linter.all false
namespace Go.Dc
open Go.RowKit GoRep
structure Hdr where
 a : Option Addr
 len : Nat
 cap : Nat
instance : GoRep Hdr where
 R := Unit
 n := 1
 bytes := 24
 enc := fun _ x => [.slice x.a x.len x.cap]
 ok := fun _ _ _ _ => True
 npos := by decide
 bpos := by decide
 len := fun _ _ => rfl
 one := fun r x v hv => by simp at hv; subst hv; rfl
 mono := fun _ _ _ _ _ _ h => h
 dep := fun _ _ _ _ _ _ h => h
section
variable {P : Program} {n : Nat} {κ : Ctx} {ρ : Env} {H : List Chunk} {g : Bool} {C : Env → List Chunk → Prop} {β : Type} [GoRep β]
theorem st_bsliceE {α : Type} [GoRep α] {t d len : Nat} {parts : List (Nat × Operand)} {vs : List (Nat × Value)} {ty : TypeId} {pos : String} {aft : Array Edge} {gd : Option (Nat × Bool)} (e : Nat) (es : Nat → R α) (xs : List α)
  (hok : ∀ S w, MemS S κ H w → ∀ i y, xs[i]? = some y → ok S w (es i) y)
  (k : ∀ r : SR (R α), (∀ i, r.es i = es i) → C ((d, .v (.slice r.a xs.length r.cap)) :: ρ) (trow e r xs :: H))
  (hv : GetsP ρ true parts vs := by repeat (first | exact GetsP.nil | (apply GetsP.cons; first | exact .plain rfl | exact .cond rfl id | exact .cond rfl gl)))
  (hb : ∀ w, (Instr.buildSlice t len vs.toArray).run P w = .ok (.slice (some ⟨w.heap.size, 0, none⟩) len len) (w.alloc (.cells (encL es xs 0).toArray e)) := by intro w; kernel_rfl)
  (hlen : xs.length = len := by rfl) (hbb : Nat.ble (xs.length * GoRep.bytes α) 140737488355328 = true := by rfl)
  (hd : Nat.blt d n = true := by rfl) : StepO P n κ ⟨some d, .buildSlice t len parts.toArray, ty, pos, aft, gd⟩ ρ H C := by
 intro K Q hs w a hm ho
 subst hlen
 have e' := hv.eval ho rfl
 have hr : (execOp a.eval ⟨some d, .buildSlice t xs.length parts.toArray, ty, pos, aft, gd⟩).run P w = .ok (.value (.slice (some ⟨w.heap.size, 0, none⟩) xs.length xs.length)) (w.alloc (.cells (encL es xs 0).toArray e)) := by
  show (Instr.buildSlice t xs.length (parts.toArray.map fun (i, x) => (i, a.eval x)) >>= fun v => pure (Next.value v)).run P w = _
  refine run_value ?_
  have : (parts.toArray.map fun (i, x) => (i, a.eval x)) = vs.toArray := by rw [← e']; simp
  rw [this]
  exact hb w
 unfold Oper.wp
 rw [hr]
 obtain ⟨S, hms⟩ := hm
 have hw' : ∀ k, k < w.heap.size → (w.alloc (.cells (encL es xs 0).toArray e)).heap[k]? = w.heap[k]? := fun k hk => Below.heap_alloc w _ k hk
 refine hs _ _ (k ⟨some ⟨w.heap.size, 0, none⟩, xs.length, es⟩ (fun _ => rfl)) _ _ ⟨S, hms.add (c := trow e ⟨some ⟨w.heap.size, 0, none⟩, xs.length, es⟩ xs) ⟨rfl, rfl, rfl, by simp, fun k hk _ => hw' k hk⟩ (fun _ h => h) (fun _ h => .inl h) (fun k hk => ?_) ⟨by simpa using hbb, .inr ⟨w.heap.size, 0, (encL es xs 0).toArray, rfl, ?_, Nat.le_refl _, ?_, ?_⟩⟩ ?_⟩ (ho.put (by simpa [Nat.blt_eq] using hd) rfl)
 ·have := hms.lt k hk
  show k < (w.heap.push _).size
  simp; omega
 ·show (w.heap.push _)[w.heap.size]? = _
  simp
 ·simp [encL_len]
 ·intro i x hx
  refine ⟨fun j v hv => ?_, GoRep.dep S w _ _ _ (fun k hk => hw' k (hms.lt k hk)) (hok S w hms i x hx)⟩
  have hj : j < GoRep.n α := by have := (List.getElem?_eq_some_iff.1 hv).1; rwa [GoRep.len] at this
  simp only [List.getElem?_toArray, Nat.zero_add]
  rw [encL_get es xs 0 i j x hx hj, Nat.zero_add]
  exact hv
 ·rintro kk ⟨p, hp, rfl⟩
  cases hp
  exact ⟨Nat.le_refl _, by show w.heap.size < (w.heap.push _).size; simp, fun h => by have := hms.lt w.heap.size h; omega⟩
end
end Go.Dc
namespace Go.Dc
open Go.RowKit GoRep
section
variable {P : Program} {n : Nat} {κ : Ctx} {ρ : Env} {H : List Chunk} {g : Bool}
theorem Kn.subv {α : Type} [GoRep α] {r : SR (R α)} {xs ys : List α} {lo hi : Int} (h : Kn κ H (α := List α) r xs) (hq : sub xs lo hi = some ys) : Kn κ H (α := List α) (r.sub lo.toNat (GoRep.n α)) ys :=
 h.map fun _ _ hs => SlOk.sub hs hq
theorem Ok.same {v v' : Value} {a : Act} {t : Nat} (h : Ok n ρ a) (hl : look ρ t = some (.v v)) (he : v = v') : Ok n ((t, .v v') :: ρ) a := by
 subst he
 refine ⟨h.size, h.nodef, fun u e he => ?_⟩
 simp only [look] at he
 by_cases hb : t = u
 ·subst hb
  simp at he
  subst he
  exact h.get _ _ hl
 ·have hb' : Nat.beq t u = false := beq_ne hb
  rw [hb'] at he
  exact h.get u e he
theorem ow_same {ops : Array Oper} {Q : Exit → Act → World → Prop} {rest : List Oper} {v v' : Value} (t : Nat) (hl : look ρ t = some (.v v)) (he : v = v') (k : OW P n κ ops Q rest ((t, .v v') :: ρ) H) : OW P n κ ops Q rest ρ H :=
 fun w a hm ho => k w a hm (ho.same hl he)
theorem aw_same {ops : Array Oper} {K : Act → World → Prop} {Hs : List Chunk} {fuel : Nat} {listed : Array Bool} {v v' : Value} (t : Nat) (hl : look ρ t = some (.v v)) (he : v = v') (k : AW P n κ ops K Hs fuel listed ((t, .v v') :: ρ) H) : AW P n κ ops K Hs fuel listed ρ H :=
 fun w a hm hs ho => k w a hm hs (ho.same hl he)
end
end Go.Dc
namespace Go.Dc
open Go.RowKit GoRep
theorem Str.ba_iff {s t : Str} : s.ba = t.ba ↔ s = t := ⟨Str.ba_inj, fun h => by rw [h]⟩
def cpy {α : Type} (xs : List α) (lo : Nat) (ys : List α) : List α := xs.take lo ++ ys ++ xs.drop (lo + ys.length)
def cpyM {α : Type} (xs : List α) (lo dl : Nat) (ys : List α) : Option (List α) := if lo + dl ≤ xs.length then some (cpy xs lo (ys.take dl)) else none
theorem cpy_nil {α : Type} (xs : List α) (lo : Nat) : cpy xs lo [] = xs := by simp [cpy]
theorem cpy_len {α : Type} {xs ys : List α} {lo : Nat} (h : lo + ys.length ≤ xs.length) : (cpy xs lo ys).length = xs.length := by
 simp only [cpy, List.length_append, List.length_take, List.length_drop]; omega
theorem cpyM_len {α : Type} {xs ys zs : List α} {lo dl : Nat} (h : cpyM xs lo dl ys = some zs) : zs.length = xs.length := by
 unfold cpyM at h
 split at h
 ·cases h; exact cpy_len (by simp only [List.length_take]; omega)
 ·cases h
theorem cpy_get {α : Type} {xs ys : List α} {lo : Nat} (h : lo + ys.length ≤ xs.length) (q : Nat) : (cpy xs lo ys)[q]? = if q < lo then xs[q]? else if q < lo + ys.length then ys[q - lo]? else xs[q]? := by
 have h1 : (xs.take lo).length = lo := by rw [List.length_take]; omega
 unfold cpy
 rw [List.append_assoc]
 by_cases a : q < lo
 ·rw [if_pos a, List.getElem?_append_left (by omega), List.getElem?_take, if_pos a]
 ·rw [if_neg a, List.getElem?_append_right (by omega), h1]
  by_cases b : q < lo + ys.length
  ·rw [if_pos b, List.getElem?_append_left (by omega)]
  ·rw [if_neg b, List.getElem?_append_right (by omega), List.getElem?_drop, show lo + ys.length + (q - lo - ys.length) = q by omega]
section
variable {P : Program}
theorem run_copy_some {w : World} (t ty e : TypeId) (i : TypeInfo) (ht : P.underlying t = some (.slice e)) (hi : P.info? e = some i)
  (gb o dl cd : Nat) (cur : Array Value) (hg : w.heap[gb]? = some (.cells cur e (0, 0))) (src : Option Addr) (mm c : Nat) (news : List Value) (hl : news.length = Nat.min mm dl * i.size)
  (hnews : ∀ j v, news[j]? = some v → src = some ⟨sb src, so src, none⟩ ∧ w.cell? ⟨sb src, so src + j, none⟩ = some v) (h1 : ∀ u ∈ news, u.oneCell' = true) (hfit : o + news.length ≤ cur.size) :
  (Builtin.copy_ #[t, t] ty #[.slice (some ⟨gb, o, none⟩) dl cd, .slice src mm c]).run P w =
   .ok (.int .i64 (Nat.min mm dl : Nat)) (w.setRow gb (cur.toList.take o ++ news ++ cur.toList.drop (o + news.length)).toArray) := by
 have hf := run_first (P := P) (w := w) (size := i.size) (m := Nat.min mm dl) (src := src) (len := mm) (cap := c) hl hnews
 have hst := run_storeCells_at P gb o e news 0 cur w hg (by simpa using hfit) h1
 simp only [Nat.add_zero] at hst
 simp [Builtin.copy_, run_underlying ht, sizeOf, typeInfo, hi, Builtin.lenOf, hf, hst, goInt]
theorem run_copy_zero {w : World} (t ty e : TypeId) (i : TypeInfo) (ht : P.underlying t = some (.slice e)) (hi : P.info? e = some i) (ba : Option Addr) (dl cd : Nat) (src : Option Addr) (mm c : Nat) (h0 : Nat.min mm dl = 0) :
  (Builtin.copy_ #[t, t] ty #[.slice ba dl cd, .slice src mm c]).run P w = .ok (.int .i64 (0 : Nat)) w := by
 have hf := run_first (P := P) (w := w) (size := i.size) (m := 0) (src := src) (len := mm) (cap := c) (cs := []) (by simp) (fun j v hv => by simp at hv)
 cases ba with
 | none => simp [Builtin.copy_, run_underlying ht, sizeOf, typeInfo, hi, Builtin.lenOf, h0, hf, goInt]
 | some a => simp [Builtin.copy_, run_underlying ht, sizeOf, typeInfo, hi, Builtin.lenOf, h0, hf, goInt, storeCells]
end
section
variable {P : Program} {n : Nat} {κ : Ctx} {ρ : Env} {H : List Chunk} {g : Bool} {C : Env → List Chunk → Prop}
theorem Kn.capL {α : Type} [GoRep α] {r : SR (R α)} {xs : List α} {w : World} (hk : Kn κ H (α := List α) r xs) (hm : Mem κ H w) : xs.length ≤ r.cap := by
 obtain ⟨S, hs⟩ := hm
 obtain ⟨L, _, h2⟩ := hk S w hs
 exact h2.1
theorem ev_subc {α : Type} [GoRep α] {x : Operand} {lo hi : Option Operand} {t m : Nat} {r : SR (R α)} {xs ys : List α} {ol oh : Option (IntKind × Int)}
  (hcap : xs.length ≤ r.cap) (hq : g = true → sub xs (oval ol 0) (oval oh xs.length) = some ys)
  (hx : Gets ρ g x (.slice r.a m r.cap) := by exact gT)
  (hm1 : m = xs.length := by first | rfl | simp only [List.length_set, List.length_append, List.length_replicate])
  (hlo : GetsO ρ g lo ol := by first | exact .none | exact .some (.plain rfl) | exact .some (.cond rfl id) | exact .some (.cond rfl gl))
  (hhi : GetsO ρ g hi oh := by first | exact .none | exact .some (.plain rfl) | exact .some (.cond rfl id) | exact .some (.cond rfl gl))
  (hsz : elemSize P t = some (GoRep.n α) := by kernel_rfl) :
  Ev P n κ H ρ g (.slice t x lo hi none) (.slice (r.sub (oval ol 0).toNat (GoRep.n α)).a ys.length (r.sub (oval ol 0).toNat (GoRep.n α)).cap) := by
 subst hm1
 intro w a dst ty pos aft gd hm ho hg
 show (Instr.sliceAt t (a.eval x) (lo.map a.eval) (hi.map a.eval) none >>= fun v => pure (Next.value v)).run P w = _
 rw [hx.eval ho hg, hlo.eval ho hg, hhi.eval ho hg]
 exact run_value (run_sub (hq hg) hcap hsz)
def From {ρ : Type} (r : SR ρ) (lo sz : Nat) (ba : Option Addr) : Prop := ∀ gb o, r.a = some ⟨gb, o, none⟩ → r.cap ≠ lo → ba = some ⟨gb, o + lo * sz, none⟩
theorem From.all {ρ : Type} {r : SR ρ} {sz : Nat} : From r 0 sz r.a := fun gb o h _ => by rw [h]; simp
theorem From.sub {ρ : Type} {r : SR ρ} {lo sz : Nat} : From r lo sz (r.sub lo sz).a := fun gb o h hne => by
 show (if r.cap = lo then r.a else r.a.map (·.add (lo * sz))) = _
 rw [if_neg hne, h]
 simp [Addr.add_lit]
theorem encL_take {α : Type} [GoRep α] {es : Nat → R α} {ys : List α} {k j : Nat} {v : Value} (h : (encL es (ys.take k) 0)[j]? = some v) : (encL es ys 0)[j]? = some v := by
 obtain ⟨i, j', x, rfl, hj, hx, hv⟩ := encL_split es h
 have hx' : ys[i]? = some x := by
  rw [List.getElem?_take] at hx
  split at hx
  ·exact hx
  ·cases hx
 rw [encL_get es ys 0 i j' x hx' hj, Nat.zero_add]
 exact hv
theorem st_copy {α : Type} [GoRep α] {x y : Operand} {t e sz by_ d : Nat} {ty : TypeId} {pos : String} {aft : Array Edge} {gd : Option (Nat × Bool)} {r r2 : SR (R α)} {xs ys zs : List α} {lo dl cd m2 : Nat} {ba : Option Addr} {H' : List Chunk}
  (hu : Upd H (trow e r xs) (trow e r zs) H') (hk : Kn κ H (α := List α) r2 ys) (hq : cpyM xs lo dl ys = some zs) (hba : From r lo sz ba)
  (hfl : ∀ (S : Soup) (w : World) (q : R α) (u : α), ok S w q u) (hen : ∀ (p q : R α) (u : α), enc p u = enc q u)
  (k : C ((d, .v (.int .i64 (Nat.min ys.length dl : Nat))) :: ρ) H')
  (hx : Gets ρ true x (.slice ba dl cd) := by exact gT) (hy : Gets ρ true y (.slice r2.a m2 r2.cap) := by exact gT)
  (hm2 : m2 = ys.length := by first | rfl | simp only [List.length_set, List.length_append, List.length_replicate])
  (hd : Nat.blt d n = true := by rfl) (hsz : GoRep.n α = sz := by rfl) (hby : GoRep.bytes α = by_ := by rfl) (hi : rowInfo P t e sz by_ = true := by kernel_rfl) :
  StepO P n κ ⟨some d, .call { callee := .builtin .copy, args := #[x, y], argTypes := #[t, t] }, ty, pos, aft, gd⟩ ρ H C := by
 subst hm2
 intro K Q hs w act hm ho
 obtain ⟨hut, i, z, hi', hisz, hiby, hz, hzs, hpos⟩ := rowInfo_spec hi
 obtain ⟨cs, hcs⟩ := exec_builtin2 act.eval .copy x y #[t, t] (some d) ty pos aft gd
 have hnews := cells_of_kn hk hm
 obtain ⟨S, hms⟩ := hm
 have hφ := hu.has.φ hms
 have hin := (hms.all _ hu.has.mem).2
 unfold cpyM at hq
 split at hq
 case isFalse => cases hq
 rename_i hld
 have hzq : zs = cpy xs lo (ys.take dl) := by cases hq; rfl
 have hzl : zs.length = xs.length := by rw [hzq]; exact cpy_len (by simp only [List.length_take]; omega)
 by_cases h0 : Nat.min ys.length dl = 0
 ·have hnil : ys.take dl = [] := List.length_eq_zero_iff.1 (by rw [List.length_take]; exact (Nat.min_comm _ _).trans h0)
  have hzx : zs = xs := by rw [hzq, hnil, cpy_nil]
  subst hzx
  unfold Oper.wp
  rw [hcs, hx.eval ho rfl, hy.eval ho rfl]
  have hr := run_value (P := P) (run_copy_zero (P := P) (w := w) t ty e i hut hi' ba dl cd r2.a ys.length r2.cap h0)
  rw [show (0 : Nat) = Nat.min ys.length dl from h0.symm] at hr
  rw [show builtin .copy #[t, t] ty cs #[.slice ba dl cd, .slice r2.a ys.length r2.cap] = (Builtin.copy_ #[t, t] ty #[.slice ba dl cd, .slice r2.a ys.length r2.cap] >>= fun v => pure (Next.value v)) from rfl, hr]
  exact hs _ _ k w _ ⟨S, hms.upd hu (Frame.refl _ w) (fun _ h => h) (fun _ h => .inl h) hms.lt hφ (fun kk hk => ⟨.inl hk, (hin kk hk).1, (hin kk hk).2.1⟩)⟩ (ho.put (by simpa [Nat.blt_eq] using hd) rfl)
 ·rcases hφ.2 with ⟨ha, hxs0, hc0⟩ | ⟨gb, o, cur, ha, hgb, h3, h4, h5⟩
  ·subst hxs0
   have : dl = 0 := by simp at hld; omega
   subst this
   exact absurd (Nat.min_zero _) h0
  ·have hne : r.cap ≠ lo := by
    have : 0 < dl := by
     have := Nat.min_le_right ys.length dl
     have h1 : Nat.min ys.length dl ≤ dl := this
     omega
    omega
   have hb := hba gb o ha hne
   subst hb
   have hyl : (ys.take dl).length = Nat.min ys.length dl := by rw [List.length_take]; exact Nat.min_comm _ _
   have hnl : (encL r2.es (ys.take dl) 0).length = Nat.min ys.length dl * i.size := by rw [encL_len, hisz, hsz, hyl]
   have hnle : lo + (ys.take dl).length ≤ xs.length := by simp only [List.length_take]; omega
   have hfit : o + lo * sz + (encL r2.es (ys.take dl) 0).length ≤ cur.size := by
    rw [encL_len, hsz, Nat.add_assoc, ← Nat.add_mul]
    rw [hsz] at h4
    exact Nat.le_trans (Nat.add_le_add_left (Nat.mul_le_mul_right _ (by omega)) _) h4
   have hrun := run_value (P := P) (run_copy_some (P := P) (w := w) t ty e i hut hi' gb (o + lo * sz) dl cd cur hgb r2.a ys.length r2.cap (encL r2.es (ys.take dl) 0) hnl (fun j v hv => hnews j v (encL_take hv)) (encL_one _ _ _) hfit)
   unfold Oper.wp
   rw [hcs, hx.eval ho rfl, hy.eval ho rfl]
   rw [show builtin .copy #[t, t] ty cs #[.slice (some ⟨gb, o + lo * sz, none⟩) dl cd, .slice r2.a ys.length r2.cap] = (Builtin.copy_ #[t, t] ty #[.slice (some ⟨gb, o + lo * sz, none⟩) dl cd, .slice r2.a ys.length r2.cap] >>= fun v => pure (Next.value v)) from rfl, hrun]
   generalize hN : encL r2.es (ys.take dl) 0 = N at *
   have hfr : Frame (trow e r xs).fp w (w.setRow gb (cur.toList.take (o + lo * sz) ++ N ++ cur.toList.drop (o + lo * sz + N.length)).toArray) := by
    refine ⟨rfl, rfl, rfl, by simp [World.setRow], fun k _ hn => ?_⟩
    have hne : gb ≠ k := fun h => hn ⟨_, ha, h.symm⟩
    simp [World.setRow, Array.getElem?_modify, hne]
   refine hs _ _ k _ _ ⟨S, hms.upd hu hfr (fun _ h => h) (fun _ h => .inl h) (fun k hk => Nat.lt_of_lt_of_le (hms.lt k hk) hfr.size) ⟨by rw [hzl]; exact hφ.1, .inr ⟨gb, o, _, ha, setRow_heap w gb cur _ e (0, 0) hgb, by rw [hzl]; exact h3, ?_, ?_⟩⟩ ?_⟩ (ho.put (by simpa [Nat.blt_eq] using hd) rfl)
   ·have hc : (cur.toList.take (o + lo * sz) ++ N ++ cur.toList.drop (o + lo * sz + N.length)).toArray.size = cur.size := by
     simp only [List.size_toArray, List.length_append, List.length_take, List.length_drop, Array.length_toList]
     omega
    rw [hc]; exact h4
   ·intro q u hqu
    refine ⟨fun j v hv => ?_, hfl _ _ _ _⟩
    have hj : j < GoRep.n α := by have := (List.getElem?_eq_some_iff.1 hv).1; rwa [GoRep.len] at this
    simp only [List.getElem?_toArray]
    have hpre : (cur.toList.take (o + lo * sz)).length = o + lo * sz := by
     have hcl : cur.toList.length = cur.size := Array.length_toList
     rw [List.length_take, hcl]; omega
    have hNl : N.length = (ys.take dl).length * GoRep.n α := by rw [← hN, encL_len]
    rw [hzq, cpy_get hnle] at hqu
    have mul_lt : ∀ a b : Nat, a < b → a * GoRep.n α + j < b * GoRep.n α := fun a b hab => by
     have : a * GoRep.n α + GoRep.n α ≤ b * GoRep.n α := by rw [← Nat.succ_mul]; exact Nat.mul_le_mul_right _ hab
     omega
    rw [← hsz] at hpre ⊢
    by_cases a1 : q < lo
    ·rw [if_pos a1] at hqu
     have := mul_lt q lo a1
     rw [List.append_assoc, List.getElem?_append_left (by rw [hpre]; omega), List.getElem?_take, if_pos (by omega)]
     have := (h5 q u hqu).1 j v hv
     simpa using this
    ·rw [if_neg a1] at hqu
     have hle : lo * GoRep.n α ≤ q * GoRep.n α := Nat.mul_le_mul_right _ (by omega)
     by_cases a2 : q < lo + (ys.take dl).length
     ·rw [if_pos a2] at hqu
      have e1 : o + (q * GoRep.n α + j) = (o + lo * GoRep.n α) + ((q - lo) * GoRep.n α + j) := by rw [Nat.sub_mul]; omega
      have hlt2 : (q - lo) * GoRep.n α + j < N.length := by rw [hNl]; exact mul_lt _ _ (by omega)
      rw [e1, List.append_assoc, List.getElem?_append_right (by rw [hpre]; omega), hpre, Nat.add_sub_cancel_left, List.getElem?_append_left hlt2, ← hN, encL_get r2.es _ 0 _ j u hqu hj, Nat.zero_add, hen _ (r.es q)]
      exact hv
     ·rw [if_neg a2] at hqu
      have hle2 : (lo + (ys.take dl).length) * GoRep.n α ≤ q * GoRep.n α := Nat.mul_le_mul_right _ (by omega)
      rw [Nat.add_mul, ← hNl] at hle2
      rw [List.append_assoc, List.getElem?_append_right (by rw [hpre]; omega), hpre, List.getElem?_append_right (by omega), List.getElem?_drop]
      rw [show o + lo * GoRep.n α + N.length + (o + (q * GoRep.n α + j) - (o + lo * GoRep.n α) - N.length) = o + (q * GoRep.n α + j) by omega]
      have := (h5 q u hqu).1 j v hv
      simpa using this
   ·rintro kk ⟨p, hp, rfl⟩
    have h := hin p.block ⟨p, hp, rfl⟩
    refine ⟨.inl ⟨p, hp, rfl⟩, ?_, h.2.1⟩
    have := h.1
    simpa [World.setRow] using this
theorem st_dynv {f d : Nat} {x : Operand} {xs : List Operand} {vs cap : List Value} {v : Value} {ts : Array TypeId} {ty : TypeId} {pos : String} {aft : Array Edge} {gd : Option (Nat × Bool)}
  (hc : ∀ w, Mem κ H w → Calls P f (vs ++ cap).toArray w (Ret w v)) (k : C ((d, .v v) :: ρ) H)
  (hx : Gets ρ true x (.func (.func f) #[] cap.toArray) := by exact gT)
  (ha : GetsG ρ true xs vs := by repeat (first | exact GetsG.nil | (apply GetsG.cons; first | exact .plain rfl | exact .cond rfl id | exact .cond rfl gl)))
  (hd : Nat.blt d n = true := by rfl) (hf : callable P f = true := by kernel_rfl) :
  StepO P n κ ⟨some d, .call { callee := .value x, args := xs.toArray, argTypes := ts }, ty, pos, aft, gd⟩ ρ H C := by
 intro K Q hs w a hm ho
 unfold Oper.wp
 rw [run_dyn (hx.eval ho rfl) (ha.eval ho rfl) hf]
 refine (hc w hm).mono ?_
 rintro e w' ⟨rfl, hb⟩
 exact hs _ _ k w' _ (hm.keepB hb) (ho.put (by simpa [Nat.blt_eq] using hd) rfl)
end
end Go.Dc
namespace Go.Dc
open Go.RowKit GoRep
structure GMap (α : Type) where
 l : List α
 deriving DecidableEq, Inhabited
instance {α : Type} [GoRep α] : GoRep (GMap α) where
 R := SR (R α)
 n := 1
 bytes := 8
 enc := fun r _ => [.map (some (sb r.a))]
 ok := fun _ _ _ _ => True
 npos := Nat.one_pos
 bpos := by omega
 len := fun _ _ => rfl
 one := fun _ _ v hv => by simp at hv; subst hv; rfl
 mono := fun _ _ _ _ _ _ h => h
 dep := fun _ _ _ _ _ _ h => h
theorem find_idx {α : Type} {xs : List α} {p : α → Bool} : (xs.find? p = none ∧ xs.findIdx? p = none ∧ xs.any p = false ∧ ∀ x ∈ xs, p x = false) ∨
  ∃ i x, xs.find? p = some x ∧ xs.findIdx? p = some i ∧ xs[i]? = some x ∧ xs.any p = true ∧ p x = true ∧ ∀ j y, j < i → xs[j]? = some y → p y = false := by
 induction xs with
 | nil => exact .inl ⟨rfl, rfl, rfl, by simp⟩
 | cons a l ih =>
  cases ha : p a with
  | true => exact .inr ⟨0, a, by simp [ha], by simp [List.findIdx?_cons, ha], rfl, by simp [ha], ha, fun j y hj => by omega⟩
  | false =>
   rcases ih with ⟨h1, h2, h3, h4⟩ | ⟨i, x, h1, h2, h3, h4, h5, h6⟩
   ·refine .inl ⟨by simp [ha, h1], by simp [List.findIdx?_cons, ha, h2], by simp [ha, h3], fun x hx => ?_⟩
    rcases List.mem_cons.1 hx with rfl | hx
    ·exact ha
    ·exact h4 x hx
   ·refine .inr ⟨i + 1, x, by simp [ha, h1], by simp [List.findIdx?_cons, ha, h2], by simpa using h3, by simp [ha, h4], h5, fun j y hj hy => ?_⟩
    cases j with
    | zero => simp at hy; subst hy; exact ha
    | succ j => exact h6 j y (by omega) (by simpa using hy)
class MapEnt (α : Type) (β : outParam Type) [GoRep α] [GoRep β] where
 ks : List PK
 keyc : α → List Value
 val : α → List β
 rep : R α → SR (R β)
 fits : ∀ x, fit ks (keyc x) = true
 okv : ∀ S w r x, ok S w r x → SlOk S w (rep r) (val x)
section
variable {α β : Type} [GoRep α] [GoRep β] [MapEnt α β]
def mapc (r : SR (R α)) (xs : List α) : Chunk where
 fp := fun k => k = sb r.a
 φ := fun S w => ∃ es clock, w.heap[sb r.a]? = some (.map es clock) ∧ es.toList.length = xs.length ∧
  ∀ i x, xs[i]? = some x → (∃ e, es.toList[i]? = some e ∧ e.key = .agg (MapEnt.keyc x).toArray ∧ e.val = .slice (MapEnt.rep (r.es i)).a (MapEnt.val x).length (MapEnt.rep (r.es i)).cap) ∧ ok S w (r.es i) x
 dep := fun S w w' h hw => by
  obtain ⟨es, clock, h1, h2, h3⟩ := hw
  exact ⟨es, clock, by rw [h _ (.inl rfl)]; exact h1, h2, fun i x hx => ⟨(h3 i x hx).1, GoRep.dep S w w' _ _ (fun k hk => h k (.inr hk)) (h3 i x hx).2⟩⟩
 mono := fun S S' w h hw => by
  obtain ⟨es, clock, h1, h2, h3⟩ := hw
  exact ⟨es, clock, h1, h2, fun i x hx => ⟨(h3 i x hx).1, GoRep.mono S S' w _ _ h (h3 i x hx).2⟩⟩
def mval (xs : List α) (p : α → Bool) : List β := match xs.find? p with | some x => MapEnt.val x | none => []
def mrep (z : Nat → R β) (r : SR (R α)) (xs : List α) (p : α → Bool) : SR (R β) := match xs.findIdx? p with | some i => MapEnt.rep (r.es i) | none => ⟨none, 0, z⟩
def MR.add (r : SR (R α)) (i : Nat) (q : R α) : SR (R α) := ⟨r.a, r.cap, fun j => if j = i then q else r.es j⟩
theorem okNil' {S : Soup} {w : World} {z : Nat → R β} : SlOk S w (⟨none, 0, z⟩ : SR (R β)) [] := ⟨Nat.le_refl _, by simp, fun i x hx => by simp at hx⟩
variable {P : Program} {n : Nat} {κ : Ctx} {ρ : Env} {H : List Chunk} {g : Bool} {C : Env → List Chunk → Prop}
theorem Sk.found {r : SR (R α)} {xs : List α} (h : Has H (mapc r xs)) (z : Nat → R β) (p : α → Bool) : Sk κ H (α := List β) (mrep z r xs p) (mval xs p) := by
 intro S w hs
 obtain ⟨es, clock, _, _, h3⟩ := h.φ hs
 show SlOk S w _ _
 rcases find_idx (xs := xs) (p := p) with ⟨h1, h2, _⟩ | ⟨i, x, h1, h2, hx, _⟩
 ·simp only [mval, mrep, h1, h2]; exact okNil'
 ·simp only [mval, mrep, h1, h2]
  exact MapEnt.okv S w _ _ (h3 i x hx).2
end
/-! ### Some cells of a block that is written meanwhile -/
def pown (b : Nat) (ps : List (Nat × Value)) : Chunk where
 fp := fun k => k = b
 φ := fun _ w => ∀ p ∈ ps, w.cell? ⟨b, p.1, none⟩ = some p.2
 dep := fun S w w' h hw p hp => by rw [World.cell?_of_block (w := w) (h b (.inl rfl))]; exact hw p hp
 mono := fun _ _ _ _ h => h
section
variable {P : Program} {n : Nat} {κ : Ctx} {ρ : Env} {H : List Chunk} {g : Bool}
theorem Mem.pown {T : TypeId} {b : Nat} {l : List Value} {w : World} {H' : List Chunk} (ps : List (Nat × Value)) (hm : Mem κ H w) (hu : Upd H (own b T l) (Dc.pown b ps) H')
  (h : ∀ p ∈ ps, l[p.1]? = some p.2) : Mem κ H' w := by
 obtain ⟨S, hs⟩ := hm
 refine ⟨S, hs.upd (S' := S) hu (Frame.refl _ _) (fun _ h => h) (fun _ h => .inl h) hs.lt (fun p hp => ?_) (fun k hk => ?_)⟩
 ·have hb : w.heap[b]? = some (.cells l.toArray T (0, 0)) := hu.has.φ hs
  simp [World.cell?, hb, h p hp]
 ·have hk : k = b := hk
  subst hk
  exact ⟨.inl rfl, ((hs.all _ hu.has.mem).2 _ rfl).1, ((hs.all _ hu.has.mem).2 _ rfl).2.1⟩
theorem ev_pload {x : Operand} {t b o : Nat} {v : Value} {ps : List (Nat × Value)} (hh : Has H (Dc.pown b ps)) (hv : (o, v) ∈ ps)
  (hx : Gets ρ g x (.pointer (some ⟨b, o, none⟩)) := by exact gT) (ht : oneT P t = true := by kernel_rfl) : Ev P n κ H ρ g (.load t x) v :=
 ev_load_cell hx ht fun _ _ hm => let ⟨_, hs⟩ := hm; hh.φ hs _ hv
theorem cw_region_anyI {Q : Exit → Act → World → Prop} {id : Nat} {ops : Array Oper} (Hs : List Chunk) (himp : ∀ w, Mem κ H w → Mem κ Hs w)
  (h : AW P n κ ops (fun a w => Q .normal a w) Hs ops.size (Array.replicate ops.size false) ρ H) (hm : P.follows .mixedOrders = true := by kernel_rfl) :
  CW P n κ (.region id ops true) Q ρ H := by
 intro w a hmm ho
 have hm' := hmm.drawn (w.drawn + 1)
 have := wp_region_held (id := id) (P := P) (Q := fun e a w => e = .normal ∧ Q .normal a w) (S := fun w => Mem κ Hs w) hm (h _ a hm' (himp _ hm') ho)
 exact wp_mono this (fun e a w hq => by obtain ⟨rfl, hk⟩ := hq; exact hk)
end
end Go.Dc
namespace Go.Dc
open Go.RowKit
inductive Wd : Fence → Prop
 | plain : Wd Fence.wide
 | round (l : Nat) : Wd (Fence.wide.inRound l)
theorem Wd.fn {F : Fence} (h : Wd F) (f : FuncId) : F.fn f := by cases h <;> trivial
theorem Wd.depth {F : Fence} (h : Wd F) : F.depth.isSome = true → False := by cases h <;> (intro h; cases h)
theorem Wd.calls {F : Fence} {n : Nat} {P : Program} {f : FuncId} {args : Array Value} {w : World} {R : Ending → World → Prop} (h : Wd F) (hc : Calls P f args w R) : CallsIn F n P f args w R := by
 cases h with
 | plain => exact callsIn_wide.2 hc
 | round l =>
  have h1 : CallsIn Fence.wide n P f args w R := callsIn_wide.2 hc
  exact h1
theorem Wd.rows {F : Fence} {n : Nat} {P : Program} {row : String} {args : Array Value} {w : World} {R : Value → World → Prop} (h : Wd F) (hc : Rows P row args w R) : RowsIn F n P row args w R := by
 cases h with
 | plain => exact fun c cs _ => let ⟨v, w', r, s⟩ := hc c cs; ⟨v, w', r, stepsIn_wide.2 s⟩
 | round l => exact fun c cs _ => let ⟨v, w', r, s⟩ := hc c cs; ⟨v, w', r, stepsIn_wide.2 s⟩
def notDefer : Op → Bool
 | .defer _ => false
 | _ => true
theorem notDefer_ne {o : Op} (h : notDefer o = true) : ∀ c, o ≠ .defer c := fun c e => by subst e; cases h
theorem wpIn_of_wp {F : Fence} {N : Nat} {P : Program} {o : Oper} {a : Act} {w : World} {K : Act → World → Prop} {Q : Exit → Act → World → Prop} (hF : Wd F) (hnd : notDefer o.op = true) (h : o.wp P a w K Q) : o.wpIn F N P a w K Q := by
 refine ⟨fun f _ => hF.fn f, ?_⟩
 rw [Oper.semAt_eq _ _ _ (notDefer_ne hnd)]
 unfold Oper.wp at h
 generalize (execOp a.eval o).run P w = r at h
 cases r with
 | ok x w' =>
  cases x with
  | value v => exact h
  | skip => exact h
  | defer d => exact h
  | enter f args => exact ⟨fun hd => (hF.depth hd).elim, hF.calls h⟩
  | row row args => exact ⟨fun hd => (hF.depth hd).elim, hF.rows h⟩
  | round l f t a b => exact h.elim
  | _ => exact h
 | halt x w' => cases x <;> exact h
section
variable {F : Fence} {P : Program} {n : Nat} {κ : Ctx} {ops : Array Oper} {Q : Exit → Act → World → Prop} {rest : List Oper} {ρ : Env} {H : List Chunk}
def OWi (F : Fence) (P : Program) (n : Nat) (κ : Ctx) (ops : Array Oper) (Q : Exit → Act → World → Prop) (l : List Oper) (ρ : Env) (H : List Chunk) : Prop :=
 ∀ w a, Mem κ H w → Ok n ρ a → wpListIn F 0 P ops Q l a w
def CWi (F : Fence) (P : Program) (n : Nat) (κ : Ctx) (c : Code) (Q : Exit → Act → World → Prop) (ρ : Env) (H : List Chunk) : Prop :=
 ∀ w a, Mem κ H w → Ok n ρ a → c.wpIn F 0 P Q a w
theorem owi_nil (h : KW n κ (fun a w => Q .normal a w) ρ H) : OWi F P n κ ops Q [] ρ H := fun w a hm ho => h w a hm ho
theorem owi_cons {o : Oper} (hF : Wd F) (h : StepO P n κ o ρ H (OWi F P n κ ops Q rest)) (hg : o.guard = none := by rfl) (hnd : notDefer o.op = true := by rfl) : OWi F P n κ ops Q (o :: rest) ρ H :=
 fun w a hm ho => wpListIn_plain hg fun K hK => wpIn_of_wp hF hnd (h K Q (fun _ _ hc w a m o => hK _ _ (hc w a m o)) w a hm ho)
theorem owi_ev {op : Op} {v : Value} {d : Nat} {ty : TypeId} {pos : String} {aft : Array Edge} (hF : Wd F)
  (h : Ev P n κ H ρ true op v) (k : OWi F P n κ ops Q rest ((d, .v v) :: ρ) H) (hd : Nat.blt d n = true := by rfl) (hnd : notDefer op = true := by rfl) :
  OWi F P n κ ops Q (⟨some d, op, ty, pos, aft, none⟩ :: rest) ρ H := owi_cons hF (st_ev h k hd) rfl hnd
theorem owi_imp {l : List Oper} {H' : List Chunk} (h : ∀ w, Mem κ H w → Mem κ H' w) (k : OWi F P n κ ops Q l ρ H') : OWi F P n κ ops Q l ρ H := fun w a hm ho => k w a (h w hm) ho
theorem cw_of_i {c : Code} (h : CWi Fence.wide P n κ c Q ρ H) : CW P n κ c Q ρ H := fun w a hm ho => wpIn_wide.1 (h w a hm ho)
theorem cwi_seq {x y : Code} (h : ∀ K : Act → World → Prop, (∀ ρ H, CWi F P n κ y Q ρ H → KW n κ K ρ H) → CWi F P n κ x (Exit.then K Q) ρ H) : CWi F P n κ (.seq x y) Q ρ H :=
 fun w a hm ho => wpIn_seq (h (y.wpIn F 0 P Q) (fun _ _ hk => hk) w a hm ho)
theorem cwi_skip (h : KW n κ (fun a w => Q .normal a w) ρ H) : CWi F P n κ .skip Q ρ H := fun w a hm ho => wpIn_skip (h w a hm ho)
theorem cwi_ret (h : KW n κ (fun a w => Q .ret a w) ρ H) : CWi F P n κ .ret Q ρ H := fun w a hm ho => wpIn_ret (h w a hm ho)
theorem cwi_block {id : Nat} {c : Code} (h : CWi F P n κ c (Exit.inBlock id Q) ρ H) : CWi F P n κ (.block id c) Q ρ H := fun w a hm ho => wpIn_block (h w a hm ho)
theorem cwi_region {id : Nat} {l : List Oper} (h : OWi F P n κ l.toArray Q l ρ H) : CWi F P n κ (.region id l.toArray false) Q ρ H := fun w a hm ho => wpIn_region_lit (h w a hm ho)
theorem cwi_cond {c : Operand} {x y : Code} {t : Bool} (hc : evc ρ c = some (.v (.bool t))) (ht : t = true → CWi F P n κ x Q ρ H) (hf : t = false → CWi F P n κ y Q ρ H) :
  CWi F P n κ (.cond c x y) Q ρ H :=
 fun w a hm ho => wpIn_cond_split (Gets.eval (.plain hc) ho rfl) (fun h => ht h w a hm ho) (fun h => hf h w a hm ho)
/-! In whatever order, under a fence: every order is walked. -/
def AWi (F : Fence) (P : Program) (n : Nat) (κ : Ctx) (ops : Array Oper) (Q : Exit → Act → World → Prop) (fuel : Nat) (listed : Array Bool) (ρ : Env) (H : List Chunk) : Prop :=
 ∀ w a, Mem κ H w → Ok n ρ a → wpAnyIn F 0 P .any ops Q fuel listed a w
theorem awi_done {fuel : Nat} {listed : Array Bool} (k : KW n κ (fun a w => Q .normal a w) ρ H) (hr : Region.ready .any ops listed = [] := by kernel_rfl) : AWi F P n κ ops Q fuel listed ρ H :=
 fun w a hm ho => wpAnyIn_done hr (k w a hm ho) fuel
def OneI (F : Fence) (P : Program) (n : Nat) (κ : Ctx) (ops : Array Oper) (Q : Exit → Act → World → Prop) (fuel : Nat) (listed : Array Bool) (ρ : Env) (H : List Chunk) (i : Nat) : Prop :=
 ∃ o, ops[i]? = some o ∧ o.guard = none ∧ notDefer o.op = true ∧ StepO P n κ o ρ H (AWi F P n κ ops Q fuel (listed.setIfInBounds i true))
theorem OneI.wpOp {fuel : Nat} {listed : Array Bool} {i : Nat} (hF : Wd F) (h : OneI F P n κ ops Q fuel listed ρ H i) {w : World} {a : Act} (hm : Mem κ H w) (ho : Ok n ρ a) :
  wpOpIn F 0 P ops Q i (wpAnyIn F 0 P .any ops Q fuel (listed.setIfInBounds i true)) a w := by
 obtain ⟨o, hi, hg, hnd, hs⟩ := h
 unfold wpOpIn
 simp only [hi, Region.wanted, hg, if_true]
 exact wpIn_of_wp hF hnd (hs _ _ (fun _ _ hc w a m o => hc w a m o) w a hm ho)
theorem awi_one {fuel : Nat} {listed : Array Bool} (hF : Wd F) (i : Nat) {o : Oper} (hi : ops[i]? = some o) (h : StepO P n κ o ρ H (AWi F P n κ ops Q fuel (listed.setIfInBounds i true)))
  (hg : o.guard = none := by rfl) (hnd : notDefer o.op = true := by rfl) (hr : Region.ready .any ops listed = [i] := by kernel_rfl) : AWi F P n κ ops Q (fuel + 1) listed ρ H := by
 intro w a hm ho
 refine wpAnyIn_all hr (by simp) fun j hj => ?_
 simp at hj; subst hj
 exact OneI.wpOp hF ⟨o, hi, hg, hnd, h⟩ hm ho
theorem awi_two {fuel : Nat} {listed : Array Bool} (hF : Wd F) (i j : Nat) (h1 : OneI F P n κ ops Q fuel listed ρ H i) (h2 : OneI F P n κ ops Q fuel listed ρ H j)
  (hr : Region.ready .any ops listed = [i, j] := by kernel_rfl) : AWi F P n κ ops Q (fuel + 1) listed ρ H := by
 intro w a hm ho
 refine wpAnyIn_all hr (by simp) fun k hk => ?_
 simp at hk
 rcases hk with rfl | rfl
 ·exact h1.wpOp hF hm ho
 ·exact h2.wpOp hF hm ho
theorem cwi_region_any {id : Nat} (h : AWi F P n κ ops Q ops.size (Array.replicate ops.size false) ρ H) (hm : P.follows .mixedOrders = true := by kernel_rfl) : CWi F P n κ (.region id ops true) Q ρ H :=
 fun w a hmm ho => wpIn_region_any hm (h _ a (hmm.drawn (w.drawn + 1)) ho)
end
/-! ### The loop's record -/
def lrec (L D : Nat) (n : Nat) (ρ : Env) (ps : Array Tmp) (assign body : Code) (st : LoopState) (pend : Option Code) : Chunk where
 fp := fun k => k = L ∨ k = D
 φ := fun _ w => L ≠ D ∧ (∃ a fn, Ok n ρ a ∧ w.heap[L]? = some (.loop { state := st, pending := pend, fn := fn, tmps := a.tmps, params := ps, assign := assign, body := body, defers := D })) ∧ w.heap[D]? = some (.deferred (some []))
 dep := fun S w w' h hw => by
  obtain ⟨h0, ⟨a, fn, h1, h2⟩, h3⟩ := hw
  exact ⟨h0, ⟨a, fn, h1, by rw [h L (.inl (.inl rfl))]; exact h2⟩, by rw [h D (.inl (.inr rfl))]; exact h3⟩
 mono := fun _ _ _ _ h => h
def ldef (D : Nat) : Chunk where
 fp := fun k => k = D
 φ := fun _ w => w.heap[D]? = some (.deferred (some []))
 dep := fun S w w' h hw => by rw [h D (.inl rfl)]; exact hw
 mono := fun _ _ _ _ h => h
section
variable {P : Program} {n : Nat} {κ : Ctx} {ρ : Env} {H : List Chunk} {L D nL : Nat} {ρL : Env} {ps : Array Tmp} {assign body : Code}
theorem Mem.lput {st st' : LoopState} {pe pe' : Option Code} {w : World} {a : Act} {fn : FuncId} (hm : Mem κ (lrec L D nL ρL ps assign body st pe :: H) w) (ha : Ok nL ρL a)
  (hw : w.heap[L]? = some (.loop { state := st, pending := pe, fn := fn, tmps := a.tmps, params := ps, assign := assign, body := body, defers := D })) :
  Mem κ (lrec L D nL ρL ps assign body st' pe' :: H) (w.putObj L (.loop { state := st', pending := pe', fn := fn, tmps := a.tmps, params := ps, assign := assign, body := body, defers := D })) := by
 obtain ⟨S, hs⟩ := hm
 have hφ := (Has.head : Has (lrec L D nL ρL ps assign body st pe :: H) _).φ hs
 have hlt : L < w.heap.size := (Array.getElem?_eq_some_iff.1 hw).1
 have hall := hs.all _ List.mem_cons_self
 refine ⟨S, hs.upd (S' := S) .head ⟨rfl, rfl, rfl, by simp [World.putObj], fun k _ hne => World.putObj_heap_other (fun e => hne (.inl e))⟩ (fun _ h => h) (fun _ h => .inl h) (fun k hk => by simpa [World.putObj] using hs.lt k hk) ?_ ?_⟩
 ·exact ⟨hφ.1, ⟨a, fn, ha, World.putObj_heap_same hlt⟩, (World.putObj_heap_other (fun e => hφ.1 e.symm)).trans hφ.2.2⟩
 ·intro k hk
  refine ⟨.inl hk, ?_, (hall.2 k hk).2.1⟩
  have := (hall.2 k hk).1
  simpa [World.putObj] using this
theorem lrec_get {st : LoopState} {pe : Option Code} {w : World} (hm : Mem κ (lrec L D nL ρL ps assign body st pe :: H) w) :
  ∃ a fn, Ok nL ρL a ∧ w.heap[L]? = some (.loop { state := st, pending := pe, fn := fn, tmps := a.tmps, params := ps, assign := assign, body := body, defers := D }) := by
 obtain ⟨S, hs⟩ := hm
 exact ((Has.head : Has (lrec L D nL ρL ps assign body st pe :: H) _).φ hs).2.1
theorem run_dyny {x : Operand} {xs : List Operand} {vs : List Value} {ts : Array TypeId} {dst : Option Tmp} {ty : TypeId} {pos : String} {aft : Array Edge} {gd : Option (Nat × Bool)} {a : Act} {w : World}
  (hx : a.eval x = .func (.yield L) #[] #[]) (e : xs.map a.eval = vs) :
  (execOp a.eval ⟨dst, .call { callee := .value x, args := xs.toArray, argTypes := ts }, ty, pos, aft, gd⟩).run P w = (Instr.yield L vs.toArray).run P w := by
 simp only [execOp, resolve, List.map_toArray, e, hx]
 show (Instr.yield L ((#[] ++ vs.toArray) ++ #[])).run P w = _
 rw [Array.empty_append, Array.append_empty]
def RQ (κ : Ctx) (c : Chunk) (Tn Tr : List Chunk → Prop) : Exit → Act → World → Prop
 | .normal, _, w => ∃ H2, Tn H2 ∧ Mem κ (c :: H2) w
 | .ret, _, w => ∃ H2, Tr H2 ∧ Mem κ (c :: H2) w
 | _, _, _ => False
theorem owi_yield {ops : Array Oper} {Q : Exit → Act → World → Prop} {rest : List Oper} {x y : Operand} {v : Value} {p d : Nat} {ts : Array TypeId} {ty : TypeId} {pos : String} {aft : Array Edge} (Tn Tr : List Chunk → Prop)
  (hround : ∀ F, Wd F → ∀ (Ka : Act → World → Prop),
   (∀ ρ2, CWi F P nL κ body (RQ κ (lrec L D nL ρL #[p] assign body .busy none) Tn Tr) ρ2 (lrec L D nL ρL #[p] assign body .busy none :: H) → KW nL κ Ka ρ2 (lrec L D nL ρL #[p] assign body .ready none :: H)) →
   CWi F P nL κ assign (Exit.then Ka (fun _ _ _ => False)) ((p, .v v) :: ρL) (lrec L D nL ρL #[p] assign body .ready none :: H))
  (kt : ∀ H2, Tn H2 → OWi Fence.wide P n κ ops Q rest ((d, .v (.bool true)) :: ρ) (lrec L D nL ρL #[p] assign body .ready none :: H2))
  (kf : ∀ H2, Tr H2 → OWi Fence.wide P n κ ops Q rest ((d, .v (.bool false)) :: ρ) (lrec L D nL ρL #[p] assign body .done (some .ret) :: H2))
  (hx : Gets ρ true x (.func (.yield L) #[] #[]) := by exact gT)
  (hy : Gets ρ true y v := by exact gT) (hd : Nat.blt d n = true := by rfl) (hp : Nat.blt p nL = true := by rfl) :
  OWi Fence.wide P n κ ops Q (⟨some d, .call { callee := .value x, args := #[y], argTypes := ts }, ty, pos, aft, none⟩ :: rest) ρ (lrec L D nL ρL #[p] assign body .ready none :: H) := by
 intro w a hm ho
 refine wpListIn_plain rfl fun K hK => ⟨fun f _ => trivial, ?_⟩
 obtain ⟨aL, fn, haL, hw⟩ := lrec_get hm
 show Oper.uponIn _ _ _ _ _ _ _ ((execOp a.eval ⟨some d, .call { callee := .value x, args := [y].toArray, argTypes := ts }, ty, pos, aft, none⟩).run P w)
 rw [run_dyny (hx.eval ho rfl) (vs := [v]) (by simp [hy.eval ho rfl]), run_yield hw (by rfl)]
 refine ⟨fun h => (Wd.plain.depth h).elim, ?_⟩
 have hd' : d < n := by simpa [Nat.blt_eq] using hd
 have hp' : p < nL := by simpa [Nat.blt_eq] using hp
 refine roundIn_of_wpIn trivial ?_
 have ok1 : Ok nL ((p, .v v) :: ρL) { tmps := aL.tmps.setIfInBounds p v, defers := [] } := by
  have := haL.put (d := p) (e := .v v) (u := v) hp' rfl
  have e : aL.put (some p) v = { tmps := aL.tmps.setIfInBounds p v, defers := [] } := by
   simp [Act.put, haL.nodef]
  rw [e] at this
  exact this
 have ef : (#[p].zip #[v]).foldl (fun (tmps : Array Value) (x : Tmp × Value) => match x with | (t, a) => tmps.setIfInBounds t a) aL.tmps = aL.tmps.setIfInBounds p v := by simp
 rw [← ef] at ok1
 refine hround _ (Wd.round L) _ ?_ w _ hm ok1
 intro ρ2 hb w1 a1 hm1 ok1'
 obtain ⟨aL1, fn1, haL1, hw1⟩ := lrec_get hm1
 refine ⟨_, run_beginRound hw1 rfl, ?_⟩
 have hm2 : Mem κ (lrec L D nL ρL #[p] assign body .busy none :: H) (w1.putObj L (.loop { state := .busy, pending := none, fn := fn1, tmps := aL1.tmps, params := #[p], assign := assign, body := body, defers := D })) := hm1.lput haL1 hw1
 refine wpIn_mono (hb _ a1 hm2 ok1') ?_
 intro e a3 w3 hq
 cases e with
 | normal =>
  obtain ⟨H2, hT, hm3⟩ := hq
  obtain ⟨aL3, fn3, haL3, hw3⟩ := lrec_get hm3
  refine ⟨_, _, run_endRound none hw3, ?_⟩
  exact hK _ _ (kt H2 hT _ _ (hm3.lput haL3 hw3) (ho.put hd' rfl))
 | ret =>
  obtain ⟨H2, hT, hm3⟩ := hq
  obtain ⟨aL3, fn3, haL3, hw3⟩ := lrec_get hm3
  refine ⟨_, _, run_endRound (some .ret) hw3, ?_⟩
  exact hK _ _ (kf H2 hT _ _ (hm3.lput haL3 hw3) (ho.put hd' rfl))
 | exit id => exact hq.elim
 | goto t => exact hq.elim
 | panic c => exact hq.elim
 | outgrown => exact hq.elim
/-! ### The statement -/
theorem Mem.lnew {w : World} {a : Act} (fn : FuncId) (hm : Mem κ H w) (ha : Ok n ρ a) :
  Mem κ (lrec (w.heap.size + 1) w.heap.size n ρ ps assign body .ready none :: H)
   ((w.alloc (.deferred (some []))).alloc (.loop { state := .ready, pending := none, fn := fn, tmps := a.tmps, params := ps, assign := assign, body := body, defers := w.heap.size })) := by
 obtain ⟨S, hs⟩ := hm
 have s1 : (w.alloc (.deferred (some []))).heap.size = w.heap.size + 1 := by simp
 have hL : ((w.alloc (.deferred (some []))).alloc (.loop { state := .ready, pending := none, fn := fn, tmps := a.tmps, params := ps, assign := assign, body := body, defers := w.heap.size })).heap[w.heap.size + 1]? = some (.loop { state := .ready, pending := none, fn := fn, tmps := a.tmps, params := ps, assign := assign, body := body, defers := w.heap.size }) := by
  have := World.alloc_heap_new (w.alloc (.deferred (some []))) (.loop { state := .ready, pending := none, fn := fn, tmps := a.tmps, params := ps, assign := assign, body := body, defers := w.heap.size })
  rwa [World.size_alloc] at this
 have hD : ((w.alloc (.deferred (some []))).alloc (.loop { state := .ready, pending := none, fn := fn, tmps := a.tmps, params := ps, assign := assign, body := body, defers := w.heap.size })).heap[w.heap.size]? = some (.deferred (some [])) :=
  (Below.heap_alloc _ _ _ (by simp)).trans (World.alloc_heap_new w _)
 refine ⟨S, hs.add ⟨rfl, rfl, rfl, by simp; omega, fun k hk _ => ?_⟩ (fun _ h => h) (fun _ h => .inl h) (fun k hk => ?_) ⟨by omega, ⟨a, fn, ha, hL⟩, hD⟩ ?_⟩
 ·exact (Below.heap_alloc _ _ _ (by simp; omega)).trans (Below.heap_alloc _ _ _ hk)
 ·have := hs.lt k hk
  simp; omega
 ·intro k hk
  rcases hk with rfl | rfl
  ·exact ⟨by omega, by simp, fun h => by have := hs.lt _ h; omega⟩
  ·exact ⟨Nat.le_refl _, by simp; omega, fun h => by have := hs.lt _ h; omega⟩
theorem Mem.ldef {st : LoopState} {pe : Option Code} {w : World} (hm : Mem κ (lrec L D nL ρL ps assign body st pe :: H) w) : Mem κ (Dc.ldef D :: H) w := by
 obtain ⟨S, hs⟩ := hm
 have hall := hs.all _ List.mem_cons_self
 refine ⟨S, hs.upd (S' := S) .head (Frame.refl _ _) (fun _ h => h) (fun _ h => .inl h) hs.lt hall.1.2.2 (fun k hk => ?_)⟩
 have hk : k = D := hk
 subst hk
 exact ⟨.inl (.inr rfl), (hall.2 _ (.inr rfl)).1, (hall.2 _ (.inr rfl)).2.1⟩
def mark (D : Nat) : List Deferred := [{ target := .collected D, args := #[] }]
theorem cw_range {Q : Exit → Act → World → Prop} {g : Operand} {id gf : Nat} {cap : List Value} (Tn Tr : List Chunk → Prop)
  (hg : evc ρ g = some (.v (.func (.func gf) #[] cap.toArray))) (hcal : callable P gf = true)
  (hit : ∀ L D w1, Mem κ (lrec L D n ρ ps assign body .ready none :: H) w1 → Calls P gf (.func (.yield L) #[] #[] :: cap).toArray w1 (fun e w2 => (∃ v, e = .returned v) ∧
   ((∃ H2, Tn H2 ∧ Mem κ (lrec L D n ρ ps assign body .ready none :: H2) w2) ∨ (∃ H2, Tr H2 ∧ Mem κ (lrec L D n ρ ps assign body .done (some .ret) :: H2) w2))))
  (hn : ∀ D H2, Tn H2 → ∀ w a, Mem κ (Dc.ldef D :: H2) w → Ok n ρ a → Q .normal { a with defers := mark D } w)
  (hr : ∀ D H2, Tr H2 → ∀ w a, Mem κ (Dc.ldef D :: H2) w → Ok n ρ a → Q .ret { a with defers := mark D } w) :
  CW P n κ (.block id (.rangeFunc g ps assign body)) Q ρ H := by
 intro w a hm ho
 refine wp_block (wpIn_wide (n := 1).1 (wpIn_rangeFunc ?_))
 intro fn _
 have eg : a.eval g = .func (.func gf) #[] cap.toArray := Gets.eval (.plain hg) ho rfl
 obtain ⟨W1, hW1⟩ : ∃ W1, (w.alloc (.deferred (some []))).alloc (.loop { state := .ready, pending := none, fn := fn, tmps := a.tmps, params := ps, assign := assign, body := body, defers := w.heap.size }) = W1 := ⟨_, rfl⟩
 have hm1 := hm.lnew (ps := ps) (assign := assign) (body := body) fn ho
 rw [hW1] at hm1
 refine ⟨w.heap.size + 1, mark w.heap.size, W1, { target := .fn (.func gf) cap.toArray, args := #[.func (.yield (w.heap.size + 1)) #[] #[]] }, W1, gf,
  #[.func (.yield (w.heap.size + 1)) #[] #[]] ++ cap.toArray, W1, ?_, ?_, fun _ _ => trivial, ?_, fun _ => Nat.le_refl _, ?_⟩
 ·rw [← hW1]; exact run_enterLoop_outer _ _ _ _ _
 ·simp only [resolve, eg]
  simp [go_sem]
 ·show (callFunc gf _).run P W1 = _
  exact run_callFunc hcal
 ·have ea : #[Value.func (.yield (w.heap.size + 1)) #[] #[]] ++ cap.toArray = (Value.func (.yield (w.heap.size + 1)) #[] #[] :: cap).toArray := by simp
  rw [ea]
  refine callsIn_wide.2 ((hit _ _ _ hm1).mono ?_)
  rintro e w3 ⟨⟨v, rfl⟩, ⟨H2, hT, hm3⟩ | ⟨H2, hT, hm3⟩⟩
  ·obtain ⟨aL, fL, haL, hw3⟩ := lrec_get hm3
   refine ⟨none, _, run_endLoop hw3 (by simp), ?_⟩
   have := hn _ H2 hT _ a (hm3.lput (st' := .exhausted) (pe' := none) haL hw3).ldef ho
   have ed : a.defers = [] := ho.nodef
   simp only [Exit.inBlock]
   rw [ed]
   exact this
  ·obtain ⟨aL, fL, haL, hw3⟩ := lrec_get hm3
   refine ⟨some .ret, _, run_endLoop hw3 (by simp), ?_⟩
   have := hr _ H2 hT _ a (hm3.lput (st' := .exhausted) (pe' := some .ret) haL hw3).ldef ho
   have ed : a.defers = [] := ho.nodef
   refine wpIn_ret ?_
   simp only [Exit.inBlock]
   rw [ed]
   exact this
theorem cw_seqR {x y : Code} {Q : Exit → Act → World → Prop} (h : CW P n κ x (Exit.then (y.wp P Q) Q) ρ H) : CW P n κ (.seq x y) Q ρ H := fun w a hm ho => wp_seq (h w a hm ho)
theorem mem_back' {S : Soup} {w w' : World} {cs H' : List Chunk} (hm : MemS S κ cs w) (h : Mem (κof w S cs) H' w') : Mem κ H' w' := by
 obtain ⟨S', hs⟩ := h
 have hp := (show MemS S' (κof w S cs) (H' ++ []) w' by rw [List.append_nil]; exact hs).fold
 have h1 := hp.all _ List.mem_cons_self
 have hf : MemS S κ (many cs :: []) w := (show MemS S κ (cs ++ []) w by rw [List.append_nil]; exact hm).fold
 have := (hf.upd (c' := many H') (S' := S') .head hs.frame hs.sub (fun k hk => (hs.sup k hk)) hs.lt h1.1 (fun k hk => ⟨(h1.2 k hk).2.2, (h1.2 k hk).1, (h1.2 k hk).2.1⟩)).unfold
 rw [List.append_nil] at this
 exact ⟨S', this⟩
/-! ### Behind the statement: the mark lies among the deferred calls -/
theorem Act.put_df (a : Act) (ds : List Deferred) (d : Option Tmp) (v : Value) : ({ a with defers := ds } : Act).put d v = { (a.put d v) with defers := ds } := by cases d <;> rfl
theorem wp_df {o : Oper} {a : Act} {w : World} {K : Act → World → Prop} {Q : Exit → Act → World → Prop} (ds : List Deferred) (hnd : ∀ d w', (execOp a.eval o).run P w ≠ .ok (.defer d) w')
  (h : o.wp P a w (fun a w => K { a with defers := ds } w) (fun e a w => Q e { a with defers := ds } w)) : o.wp P { a with defers := ds } w K Q := by
 unfold Oper.wp at h ⊢
 have he : ({ a with defers := ds } : Act).eval = a.eval := by funext x; cases x <;> rfl
 rw [he]
 generalize (execOp a.eval o).run P w = r at h hnd
 cases r with
 | ok x w' =>
  cases x with
  | value v => rw [Oper.upon_value] at h ⊢; rw [Act.put_df]; exact h
  | skip => rw [Oper.upon_skip] at h ⊢; rw [Act.put_df]; exact h
  | defer d => exact absurd rfl (hnd d w')
  | enter f args =>
   rw [Oper.upon_enter] at h ⊢
   refine h.mono ?_
   intro e w'' he
   cases e with
   | returned v => dsimp only at he ⊢; rw [Act.put_df]; exact he
   | panicked c => exact he
   | outgrown => obtain ⟨a0, w0, hq⟩ := he; exact ⟨_, w0, hq⟩
  | row row args =>
   rw [Oper.upon_row] at h ⊢
   exact h.mono fun v w'' he => by rw [Act.put_df]; exact he
  | round l f t a b => exact h.elim
  | _ => exact h
 | halt x w' => cases x <;> exact h
theorem nodef_value {s : Sem Value} {w : World} : ∀ d w', (s >>= fun v => (pure (Next.value v) : Sem Next)).run P w ≠ .ok (.defer d) w' := by
 intro d w' h
 rw [Sem.run_bind] at h
 cases hs : s.run P w with
 | ok v w1 => rw [hs] at h; cases h
 | halt x w1 => rw [hs] at h; cases h
theorem nodef_unit {s : Sem Unit} {w : World} : ∀ d w', (s >>= fun _ => (pure Next.skip : Sem Next)).run P w ≠ .ok (.defer d) w' := by
 intro d w' h
 rw [Sem.run_bind] at h
 cases hs : s.run P w with
 | ok v w1 => rw [hs] at h; cases h
 | halt x w1 => rw [hs] at h; cases h
def OWm (P : Program) (n : Nat) (κ : Ctx) (ops : Array Oper) (Q : Exit → Act → World → Prop) (ds : List Deferred) (l : List Oper) (ρ : Env) (H : List Chunk) : Prop :=
 ∀ w a, Mem κ H w → Ok n ρ a → wpList P ops Q l { a with defers := ds } w
variable {ops : Array Oper} {Q : Exit → Act → World → Prop} {l : List Oper} {ds : List Deferred}
theorem owm_nil (h : ∀ w a, Mem κ H w → Ok n ρ a → Q .normal { a with defers := ds } w) : OWm P n κ ops Q ds [] ρ H := h
theorem owm_load {t : TypeId} {x : Operand} {v : Value} {d : Nat} {ty : TypeId} {pos : String} {aft : Array Edge}
  (h : Ev P n κ H ρ true (.load t x) v) (k : OWm P n κ ops Q ds l ((d, .v v) :: ρ) H) (hd : Nat.blt d n = true := by rfl) :
  OWm P n κ ops Q ds (⟨some d, .load t x, ty, pos, aft, none⟩ :: l) ρ H := by
 intro w a hm ho
 refine wpList_plain rfl fun K hK => wp_df ds nodef_value ?_
 exact st_ev (C := fun ρ' H' => OWm P n κ ops Q ds l ρ' H') h k hd _ _ (fun ρ' H' hc w a m o => hK _ _ (hc w a m o)) w a hm ho
theorem owm_store {t : TypeId} {x y : Operand} {ty : TypeId} {pos : String} {aft : Array Edge}
  (h : StepO P n κ ⟨none, .store t x y, ty, pos, aft, none⟩ ρ H (fun ρ' H' => OWm P n κ ops Q ds l ρ' H')) :
  OWm P n κ ops Q ds (⟨none, .store t x y, ty, pos, aft, none⟩ :: l) ρ H := by
 intro w a hm ho
 refine wpList_plain rfl fun K hK => wp_df ds nodef_unit ?_
 exact h _ _ (fun ρ' H' hc w a m o => hK _ _ (hc w a m o)) w a hm ho
theorem Mem.undef {w : World} (hm : Mem κ (Dc.ldef D :: H) w) : Mem κ H (w.putObj D (.deferred none)) := by
 obtain ⟨S, hs⟩ := hm
 let e : Chunk := ⟨fun _ => False, fun _ _ => True, fun _ _ _ _ _ => trivial, fun _ _ _ _ _ => trivial⟩
 have := hs.upd (c' := e) (S' := S) (w' := w.putObj D (.deferred none)) .head ⟨rfl, rfl, rfl, by simp [World.putObj], fun k _ hne => World.putObj_heap_other (fun e => hne e)⟩ (fun _ h => h) (fun _ h => .inl h) (fun k hk => by simpa [World.putObj] using hs.lt k hk) trivial (fun k hk => hk.elim)
 exact ⟨S, this.sub' (List.sublist_cons_self _ _)⟩
theorem retM3 {N : Nat} {fn : Func} {R : Ending → World → Prop} {r1 r2 r3 : ResultVar} {v1 v2 v3 : Value} {w : World} {a : Act} (hm : Mem κ (Dc.ldef D :: H) w) (ho : Ok n ρ a) (h : ∀ w, Mem κ H w → R (.returned (.tuple #[v1, v2, v3])) w)
  (hr : fn.results = #[r1, r2, r3] := by rfl)
  (hv1 : ResV P ρ H r1 v1 := by first | exact .tmp rfl | exact .one rfl (by repeat (first | exact Has.head | apply Has.tail)) (by kernel_rfl))
  (hv2 : ResV P ρ H r2 v2 := by first | exact .tmp rfl | exact .one rfl (by repeat (first | exact Has.head | apply Has.tail)) (by kernel_rfl))
  (hv3 : ResV P ρ H r3 v3 := by first | exact .tmp rfl | exact .one rfl (by repeat (first | exact Has.head | apply Has.tail)) (by kernel_rfl)) :
  bodyPostM Fence.wide N P fn R .ret { a with defers := mark D } w := by
 have hD : w.heap[D]? = some (.deferred (some [])) := by obtain ⟨S, hs⟩ := hm; exact (Has.head : Has (Dc.ldef D :: H) _).φ hs
 have hm' := hm.undef
 have e1 := hv1.run hm' ho
 have e2 := hv2.run hm' ho
 have e3 := hv3.run hm' ho
 exact ⟨by simp, .inl ⟨D, _, rfl, run_takeDeferred hD, _, run_results3 hr e1 e2 e3, h _ hm'⟩⟩
theorem kw_retM3 {N : Nat} {fn : Func} {R : Ending → World → Prop} {r1 r2 r3 : ResultVar} {v1 v2 v3 : Value} (h : ∀ w, Mem κ H w → R (.returned (.tuple #[v1, v2, v3])) w)
  (hr : fn.results = #[r1, r2, r3] := by rfl)
  (hv1 : ResV P ρ H r1 v1 := by first | exact .tmp rfl | exact .one rfl (by repeat (first | exact Has.head | apply Has.tail)) (by kernel_rfl))
  (hv2 : ResV P ρ H r2 v2 := by first | exact .tmp rfl | exact .one rfl (by repeat (first | exact Has.head | apply Has.tail)) (by kernel_rfl))
  (hv3 : ResV P ρ H r3 v3 := by first | exact .tmp rfl | exact .one rfl (by repeat (first | exact Has.head | apply Has.tail)) (by kernel_rfl)) :
  KW n κ (fun a w => bodyPostM Fence.wide N P fn R .ret a w) ρ H := by
 intro w a hm ho
 show LeavesInM _ _ _ _ _ _ a.defers _ _
 rw [ho.nodef]
 exact ⟨_, run_results3 hr (hv1.run hm ho) (hv2.run hm ho) (hv3.run hm ho), h _ hm⟩
theorem calls_cwM {f : FuncId} {fn : Func} {c : Code} {args : List Value} {R : Ending → World → Prop} {w : World}
  (hf : P.funcs[f]? = some fn) (hb : fn.body = some c) (hm : Mem κ H w) (hl : Nat.ble args.length fn.ntmps = true)
  (h : CW P fn.ntmps κ c (bodyPostM Fence.wide 1 P fn R) (argsEnv 0 args) H) : Calls P f args.toArray w R := by
 refine (callsIn_wide (n := 1)).1 (callsIn_of_wp_marks hf hb trivial (wpIn_wide.2 (h w _ hm ⟨?_, rfl, ?_⟩)))
 ·have : args.length ≤ fn.ntmps := by simpa [Nat.ble_eq] using hl
  simp; omega
 ·intro t e he
  obtain ⟨v, rfl, _, hv⟩ := argsEnv_get args 0 t e he
  simp only [Nat.sub_zero] at hv
  have hlt : t < args.length := (List.getElem?_eq_some_iff.1 hv).1
  show _ = some v
  rw [Array.getElem?_append_left (by simpa using hlt)]
  simpa using hv
theorem mem_pre {S : Soup} {w : World} {cs : List Chunk} (hm : MemS S κ cs w) : Pre S cs w :=
 ⟨hm.lt, ⟨fun c hc => (hm.all c hc).1, hm.disj⟩, fun k ⟨c, hc, hk⟩ => ⟨((hm.all c hc).2 k hk).1, ((hm.all c hc).2 k hk).2.1⟩⟩
end
end Go.Dc
namespace Go.Dc
section
variable {P : Program} {n : Nat} {κ : Ctx} {ρ : Env} {H : List Chunk} {g : Bool}
end
end Go.Dc
namespace Go.Dc
open Go.RowKit GoRep
def u8 (c : Int) : UInt8 := UInt8.ofNat c.toNat
def u8b (c : Int) : Bool := decide (0 ≤ c ∧ c ≤ 255)
theorem u8_toNat {c : Int} (h : u8b c = true) : ((u8 c).toNat : Int) = c := by
 simp only [u8b, decide_eq_true_eq] at h
 have : (UInt8.ofNat c.toNat).toNat = c.toNat := by
  rw [UInt8.toNat_ofNat']
  omega
 show (((UInt8.ofNat c.toNat).toNat : Nat) : Int) = c
 rw [this]; omega
def bptr (u : Bool) (b : Nat) : Value := .pointer (match u with | true => some ⟨b, 0, none⟩ | false => none)
section
variable {P : Program}
theorem run_append_new_str {w : World} (t u ty e : TypeId) (i : TypeInfo) (z : Value) (ht : P.underlying t = some (.slice e)) (hu : P.underlying u = some .string) (hi : P.info? e = some i) (hz : i.zero = some z)
  (base : Option Addr) (m cap : Nat) (s : ByteArray) (olds : List Value) (hlo : olds.length = m * i.size)
  (holds : ∀ j v, olds[j]? = some v → base = some ⟨sb base, so base, none⟩ ∧ w.cell? ⟨sb base, so base + j, none⟩ = some v)
  (hg : cap < m + s.size) (h63 : m + s.size ≤ 9223372036854775807) (hb : (m + s.size) * i.bytes ≤ 140737488355328) :
  ∃ cap' rest, m + s.size ≤ cap' ∧ rest = Builtin.zeroCells z.cells (cap' - (m + s.size)) ∧ (Builtin.append_ #[t, u] ty #[.slice base m cap, .string s]).run P w =
   .ok (.slice (some ⟨w.heap.size, 0, none⟩) (m + s.size) cap') (w.drew.alloc (.cells (olds.toArray ++ (Lib.strCells s).toArray ++ rest) e)) := by
 have hn : ¬ (m + s.size ≤ cap) := by omega
 have h63' : ¬ (9223372036854775807 < ((m : Int) + (s.size : Int))) := by omega
 have hfit : Builtin.nextslicecap (m + s.size) cap * i.bytes ≤ 281474976710656 := growslice_fits (by omega) hb
 have h48' : ¬ (281474976710656 < Builtin.nextslicecap (m + s.size) cap * i.bytes) := by omega
 have hf := Lib.run_firstCells_string (P := P) w.drew i.size s
 have hfo := run_first (P := P) (w := w.drew) (size := i.size) (m := m) (src := base) (len := m) (cap := cap) hlo (by simpa using holds)
 refine ⟨grownCap w (m + s.size) cap e, _, ?_, rfl, ?_⟩
 ·unfold grownCap Question.cut
  exact Nat.le_add_right _ _
 ·simp [Builtin.append_, run_underlying ht, run_underlying hu, sizeOf, typeInfo, zeroValue, hi, hz, Builtin.lenOf, hn, h63', h48', Question.forced, hf, hfo, newRow, grownCap]
  congr 2
  apply Array.ext'
  simp [List.append_assoc]
theorem run_append_in_str {w : World} (t u ty e : TypeId) (i : TypeInfo) (ht : P.underlying t = some (.slice e)) (hu : P.underlying u = some .string) (hi : P.info? e = some i) (hs1 : i.size = 1)
  (gb o m cap : Nat) (cur : Array Value) (hg : w.heap[gb]? = some (.cells cur e (0, 0))) (s : ByteArray)
  (hroom : m + s.size ≤ cap) (hfit : o + m + s.size ≤ cur.size) :
  (Builtin.append_ #[t, u] ty #[.slice (some ⟨gb, o, none⟩) m cap, .string s]).run P w =
   .ok (.slice (some ⟨gb, o, none⟩) (m + s.size) cap) (w.setRow gb (cur.toList.take (o + m) ++ Lib.strCells s ++ cur.toList.drop (o + m + s.size)).toArray) := by
 have hf := Lib.run_firstCells_string (P := P) w 1 s
 have hst := run_storeCells_at P gb (o + m) e (Lib.strCells s) 0 cur w hg (by simpa [Lib.strCells_length] using hfit) (Lib.strCells_oneCell s)
 simp only [Nat.add_zero, Lib.strCells_length] at hst
 simp [Builtin.append_, run_underlying ht, run_underlying hu, sizeOf, typeInfo, hi, hs1, Builtin.lenOf, hroom, hf, Addr.add_lit, hst]
theorem run_append_zero_str {w : World} (t u ty e : TypeId) (i : TypeInfo) (ht : P.underlying t = some (.slice e)) (hu : P.underlying u = some .string) (hi : P.info? e = some i) :
  (Builtin.append_ #[t, u] ty #[.slice none 0 0, .string ⟨#[]⟩]).run P w = .ok (.slice none 0 0) w := by
 have hf := Lib.run_firstCells_string (P := P) w i.size ⟨#[]⟩
 have h0 : (⟨#[]⟩ : ByteArray).size = 0 := rfl
 rw [h0] at hf
 simp [Builtin.append_, run_underlying ht, run_underlying hu, sizeOf, typeInfo, hi, Builtin.lenOf, h0, hf]
theorem strCells_ba (s : Str) : Lib.strCells s.ba = Lib.byteCells s.l := by
 rw [Lib.strCells_eq]
 simp [Str.ba]
end
def strT (P : Program) (t : TypeId) : Bool := match P.underlying t with | some .string => true | _ => false
theorem strT_spec {P : Program} {t : TypeId} (h : strT P t = true) : P.underlying t = some .string := by
 unfold strT at h
 split at h
 ·assumption
 ·cases h
section
variable {P : Program} {n : Nat} {κ : Ctx} {ρ : Env} {H : List Chunk} {C : Env → List Chunk → Prop} {g : Bool}
theorem st_append_str {x y : Operand} {t u e d : Nat} {ty : TypeId} {pos : String} {aft : Array Edge} {gd : Option (Nat × Bool)} {r : SR Unit} {xs : List UInt8} {s : Str} {m : Nat} {H' : SR Unit → List Chunk}
  (hu : ∀ r', Upd H (trow (α := UInt8) e r xs) (trow (α := UInt8) e r' (xs ++ s.l)) (H' r'))
  (hb : xs.length + s.l.length ≤ 140737488355328)
  (k : ∀ r' : SR Unit, C ((d, .v (.slice r'.a (xs ++ s.l).length r'.cap)) :: ρ) (H' r'))
  (hx : Gets ρ true x (.slice r.a m r.cap) := by exact gT) (hy : Gets ρ true y (.string s.ba) := by exact gT)
  (hm1 : m = xs.length := by first | rfl | simp only [List.length_set, List.length_append, List.length_replicate])
  (hd : Nat.blt d n = true := by rfl) (hi : rowInfo P t e 1 1 = true := by kernel_rfl) (hst : strT P u = true := by kernel_rfl) :
  StepO P n κ ⟨some d, .call { callee := .builtin .append, args := #[x, y], argTypes := #[t, u] }, ty, pos, aft, gd⟩ ρ H C := by
 subst hm1
 intro K Q hs w act hm ho
 obtain ⟨hut, i, z, hi', hisz, hiby, hz, hzs, hpos⟩ := rowInfo_spec hi
 have hus := strT_spec hst
 obtain ⟨cs, hcs⟩ := exec_builtin2 act.eval .append x y #[t, u] (some d) ty pos aft gd
 obtain ⟨S, hms⟩ := hm
 have hφ := (hu r).has.φ hms
 have hin := (hms.all _ (hu r).has.mem).2
 have hssz : s.ba.size = s.l.length := Str.ba_size s
 have hlen : (xs ++ s.l).length = xs.length + s.l.length := List.length_append
 let es' : Nat → Unit := fun _ => ()
 have fin : ∀ (a' : Option Addr) (cap' : Nat) (w' : World), (builtin .append #[t, u] ty cs #[.slice r.a xs.length r.cap, .string s.ba]).run P w = .ok (.value (.slice a' (xs.length + s.l.length) cap')) w' →
   Frame (trow (α := UInt8) e r xs).fp w w' → (trow (α := UInt8) e (⟨a', cap', es'⟩ : SR Unit) (xs ++ s.l)).φ S w' → (∀ p, a' = some p → (((trow (α := UInt8) e r xs).fp p.block ∨ w.heap.size ≤ p.block) ∧ p.block < w'.heap.size)) →
   Oper.wp P ⟨some d, .call { callee := .builtin .append, args := #[x, y], argTypes := #[t, u] }, ty, pos, aft, gd⟩ act w K Q := by
  intro a' cap' w' hrun hfr hφ' hfp
  unfold Oper.wp
  rw [hcs, hx.eval ho rfl, hy.eval ho rfl, hrun]
  have hv : (.slice a' (xs.length + s.l.length) cap' : Value) = .slice (⟨a', cap', es'⟩ : SR Unit).a (xs ++ s.l).length (⟨a', cap', es'⟩ : SR Unit).cap := by rw [hlen]
  refine hs _ _ (k ⟨a', cap', es'⟩) w' _ ⟨S, hms.upd (hu _) hfr (fun _ h => h) (fun _ h => .inl h) (fun k hk => Nat.lt_of_lt_of_le (hms.lt k hk) hfr.size) hφ' ?_⟩ (ho.put (by simpa [Nat.blt_eq] using hd) (congrArg some hv))
  rintro kk ⟨p, hp, rfl⟩
  obtain ⟨h1, h2⟩ := hfp p hp
  refine ⟨h1, h2, fun hsk => ?_⟩
  rcases h1 with h1 | h1
  ·exact (hin _ h1).2.1 hsk
  ·have := hms.lt _ hsk; omega
 have bget : ∀ (l : List UInt8) (q : Nat) (x : UInt8), l[q]? = some x → (Lib.byteCells l)[q]? = some (.int .u8 (x.toNat : Int)) := fun l q x hq => by
  simp [Lib.byteCells, hq]
 have encv : ∀ (x : UInt8) (q j : Nat) (v : Value) (es : Nat → Unit), (enc (α := UInt8) (es q) x)[j]? = some v → j = 0 ∧ v = .int .u8 (x.toNat : Int) := fun x q j v es h => by
  cases j with
  | zero => exact ⟨rfl, (Option.some.inj h).symm⟩
  | succ j =>
   have : ([Value.int .u8 (x.toNat : Int)] : List Value)[j + 1]? = some v := h
   simp at this
 have growcase : ∀ (olds : List Value), olds = Lib.byteCells xs → (∀ j v, olds[j]? = some v → r.a = some ⟨sb r.a, so r.a, none⟩ ∧ w.cell? ⟨sb r.a, so r.a + j, none⟩ = some v) →
   r.cap < xs.length + s.l.length → Oper.wp P ⟨some d, .call { callee := .builtin .append, args := #[x, y], argTypes := #[t, u] }, ty, pos, aft, gd⟩ act w K Q := by
  intro olds hol holds hgrow
  obtain ⟨cap', rest, hcap, hrest, hrun⟩ := run_append_new_str (P := P) t u ty e i z hut hus hi' hz r.a xs.length r.cap s.ba olds (by rw [hol, Lib.byteCells_length, hisz, Nat.mul_one]) holds (by rw [hssz]; exact hgrow) (by rw [hssz]; omega) (by rw [hiby, hssz]; omega)
  rw [hssz] at hcap hrest hrun
  have hw' : ∀ k, k < w.heap.size → (w.drew.alloc (.cells (olds.toArray ++ (Lib.strCells s.ba).toArray ++ rest) e)).heap[k]? = w.heap[k]? := fun k hk => Below.heap_alloc w.drew _ k hk
  have hzc : z.cells.size = 1 := hzs
  refine fin (some ⟨w.heap.size, 0, none⟩) cap' _ (run_value hrun) ⟨rfl, rfl, rfl, by simp, fun k hk _ => hw' k hk⟩ ⟨by rw [hlen]; show _ * 1 ≤ _; omega, .inr ⟨w.heap.size, 0, olds.toArray ++ (Lib.strCells s.ba).toArray ++ rest, rfl, ?_, by rw [hlen]; exact hcap, ?_, ?_⟩⟩ ?_
  ·show (w.heap.push _)[w.heap.size]? = _
   simp
  ·simp only [Array.size_append, List.size_toArray, hrest, zeroCells_size, hol, strCells_ba, Lib.byteCells_length, hzc]
   show 0 + cap' * 1 ≤ _
   omega
  ·intro q v hq
   refine ⟨fun j v' hv => ?_, trivial⟩
   obtain ⟨rfl, rfl⟩ := encv _ _ _ _ _ hv
   have hL : (olds.toArray ++ (Lib.strCells s.ba).toArray ++ rest)[0 + (q * 1 + 0)]? = (Lib.byteCells (xs ++ s.l) ++ rest.toList)[q]? := by
    rw [Lib.byteCells_append, hol, strCells_ba, Nat.zero_add, Nat.mul_one, Nat.add_zero, ← Array.getElem?_toList]
    simp
   refine hL.trans ?_
   have hql := (List.getElem?_eq_some_iff.1 hq).1
   rw [List.getElem?_append_left (by rw [Lib.byteCells_length]; exact hql)]
   exact bget _ _ _ hq
  ·intro p hp
   cases hp
   exact ⟨.inr (Nat.le_refl _), by show w.heap.size < (w.heap.push _).size; simp⟩
 rcases hφ.2 with ⟨ha, hxs0, hc0⟩ | ⟨gb, o, cur, ha, hgb, h3, h4, h5⟩
 ·subst hxs0
  by_cases hy0 : s.l.length = 0
  ·have hy1 : s.l = [] := List.length_eq_zero_iff.1 hy0
   refine fin none 0 w ?_ (Frame.refl _ w) ⟨by simp [hy1], .inl ⟨rfl, by simp [hy1], rfl⟩⟩ (fun p hp => by cases hp)
   rw [ha, hc0, hy0]
   have hba : s.ba = ⟨#[]⟩ := by unfold Str.ba; rw [hy1]
   rw [hba]
   exact run_value (run_append_zero_str (P := P) t u ty e i hut hus hi')
  ·exact growcase [] rfl (fun j v hv => by simp at hv) (by rw [hc0]; simp; omega)
 ·have h4' : o + r.cap ≤ cur.size := by have : o + r.cap * 1 ≤ cur.size := h4; omega
  have holds : ∀ j v, (Lib.byteCells xs)[j]? = some v → r.a = some ⟨sb r.a, so r.a, none⟩ ∧ w.cell? ⟨sb r.a, so r.a + j, none⟩ = some v := fun q v hv => by
   rw [ha]
   refine ⟨rfl, ?_⟩
   obtain ⟨x', hx', rfl⟩ : ∃ x', xs[q]? = some x' ∧ v = .int .u8 (x'.toNat : Int) := by
    simp only [Lib.byteCells, List.getElem?_map, Option.map_eq_some_iff] at hv
    obtain ⟨x', h1, h2⟩ := hv
    exact ⟨x', h1, h2.symm⟩
   show w.cell? ⟨gb, o + q, none⟩ = some _
   have := (h5 q x' hx').1 0 _ rfl
   have e1 : o + (q * GoRep.n UInt8 + 0) = o + q := by show o + (q * 1 + 0) = _; omega
   rw [e1] at this
   simp [World.cell?, hgb, this]
  by_cases hroom : xs.length + s.l.length ≤ r.cap
  ·have hrun := run_append_in_str (P := P) (w := w) t u ty e i hut hus hi' hisz gb o xs.length r.cap cur hgb s.ba (by rw [hssz]; exact hroom) (by rw [hssz]; omega)
   rw [hssz] at hrun
   refine fin r.a r.cap (w.setRow gb (cur.toList.take (o + xs.length) ++ Lib.strCells s.ba ++ cur.toList.drop (o + xs.length + s.l.length)).toArray) ?_ ?_ ?_ ?_
   ·have := run_value (P := P) hrun
    rw [ha]
    exact this
   ·refine ⟨rfl, rfl, rfl, by simp [World.setRow], fun k _ hn => ?_⟩
    have hne : gb ≠ k := fun h => hn ⟨_, ha, h.symm⟩
    simp [World.setRow, Array.getElem?_modify, hne]
   ·refine ⟨by rw [hlen]; show _ * 1 ≤ _; omega, .inr ⟨gb, o, _, ha, setRow_heap w gb cur _ e (0, 0) hgb, by rw [hlen]; exact hroom, ?_, ?_⟩⟩
    ·have hc : (cur.toList.take (o + xs.length) ++ Lib.strCells s.ba ++ cur.toList.drop (o + xs.length + s.l.length)).toArray.size = cur.size := by
      simp only [List.size_toArray, List.length_append, List.length_take, List.length_drop, Array.length_toList, strCells_ba, Lib.byteCells_length]
      omega
     rw [hc]; exact h4
    ·intro q v hq
     refine ⟨fun j v' hv => ?_, trivial⟩
     obtain ⟨rfl, rfl⟩ := encv _ _ _ _ _ hv
     have hql := (List.getElem?_eq_some_iff.1 hq).1
     rw [hlen] at hql
     have hpre : (cur.toList.take (o + xs.length)).length = o + xs.length := by
      have hcl : cur.toList.length = cur.size := Array.length_toList
      rw [List.length_take, hcl]; omega
     show (cur.toList.take (o + xs.length) ++ Lib.strCells s.ba ++ cur.toList.drop (o + xs.length + s.l.length)).toArray[o + (q * 1 + 0)]? = _
     rw [show o + (q * 1 + 0) = o + q by omega]
     simp only [List.getElem?_toArray]
     by_cases hlt : q < xs.length
     ·have hq' : xs[q]? = some v := by rwa [List.getElem?_append_left hlt] at hq
      rw [List.append_assoc, List.getElem?_append_left (by rw [hpre]; omega), List.getElem?_take, if_pos (by omega)]
      have := (h5 q v hq').1 0 _ rfl
      have e1 : o + (q * GoRep.n UInt8 + 0) = o + q := by show o + (q * 1 + 0) = _; omega
      rw [e1] at this
      simpa using this
     ·have hq' : s.l[q - xs.length]? = some v := by rwa [List.getElem?_append_right (by omega)] at hq
      rw [List.append_assoc, List.getElem?_append_right (by rw [hpre]; omega), hpre, strCells_ba, List.getElem?_append_left (by rw [Lib.byteCells_length]; omega), show o + q - (o + xs.length) = q - xs.length by omega]
      exact bget _ _ _ hq'
   ·intro p hp
    refine ⟨.inl ⟨p, hp, rfl⟩, ?_⟩
    have := (hin p.block ⟨p, hp, rfl⟩).1
    simpa [World.setRow] using this
  ·exact growcase _ rfl holds (by omega)
theorem st_sliceData {x : Operand} {t d e : Nat} {ty : TypeId} {pos : String} {aft : Array Edge} {gd : Option (Nat × Bool)} {r : SR Unit} {xs : List UInt8} {m : Nat}
  (hh : Has H (trow (α := UInt8) e r xs))
  (k : ∀ q : Option Addr, (r.a = none ∨ r.cap ≠ 0 → q = r.a) → C ((d, .v (.pointer q)) :: ρ) H)
  (hx : Gets ρ true x (.slice r.a m r.cap) := by exact gT)
  (hd : Nat.blt d n = true := by rfl) (hp : (match P.underlying ty with | some (.pointer _) => true | _ => false) = true := by kernel_rfl) :
  StepO P n κ ⟨some d, .call { callee := .builtin .unsafeSliceData, args := #[x], argTypes := #[t] }, ty, pos, aft, gd⟩ ρ H C := by
 intro K Q hs w act hm ho
 have hd' : d < n := by simpa [Nat.blt_eq] using hd
 obtain ⟨cs, hcs⟩ := exec_builtin1 act.eval .unsafeSliceData x #[t] (some d) ty pos aft gd
 obtain ⟨pe, hpe⟩ : ∃ pe, P.underlying ty = some (.pointer pe) := by
  split at hp
  ·exact ⟨_, by assumption⟩
  ·cases hp
 unfold Oper.wp
 rw [hcs, hx.eval ho rfl]
 obtain ⟨S, hms⟩ := hm
 have hφ := hh.φ hms
 have easy : (r.a = none ∨ r.cap ≠ 0) → (Builtin.unsafeSliceData_ #[t] ty #[.slice r.a m r.cap]).run P w = .ok (.pointer r.a) w := fun h => by
  rcases h with h | h
  ·rw [h]; rfl
  ·cases hra : r.a with
   | none => rfl
   | some a => exact Lib.run_unsafeSliceData_row w #[t] ty a m r.cap h
 by_cases hc : r.a = none ∨ r.cap ≠ 0
 ·rw [show (builtin .unsafeSliceData #[t] ty cs #[.slice r.a m r.cap]).run P w = _ from run_value (easy hc)]
  exact hs _ _ (k r.a (fun _ => rfl)) w _ ⟨S, hms⟩ (ho.put hd' rfl)
 ·have hc0 : r.cap = 0 := Classical.not_not.1 fun h => hc (.inr h)
  rcases hφ.2 with ⟨ha, _, _⟩ | ⟨gb, o, cur, ha, hgb, h3, h4, h5⟩
  ·exact absurd (Or.inl ha) hc
  ·have hsh : w.shape? gb = some (e, cur.size) := by simp [World.shape?, hgb]
   have hrun := Lib.run_unsafeSliceData_zero (P := P) w #[t] ty pe hpe ⟨gb, o, none⟩ m (e, cur.size) hsh
   rw [ha, hc0]
   rw [show (builtin .unsafeSliceData #[t] ty cs #[.slice (some ⟨gb, o, none⟩) m 0]).run P w = _ from run_value hrun]
   refine hs _ _ (k _ (fun h => absurd h hc)) _ _ ⟨S, hms.keep ⟨rfl, rfl, rfl, by simp, fun k hk _ => Below.heap_alloc w _ k hk⟩⟩ (ho.put hd' rfl)
theorem liesAt_off {e : TypeId} (hc : P.cellsOf e = 1) (count o n : Nat) (hn : o + n ≤ count) : liesAt P P.depth e count o e n = true := by
 have hd : P.depth = (2 * (P.types.size + Made.depth) + 1) + 1 := rfl
 rw [hd]
 simp only [liesAt, Bool.or_eq_true]
 left
 rw [hd]
 simp [rowAt, hc, hn, sameLayout, Nat.mod_one]
theorem run_unsafeString_off {w : World} (pt it ty e : TypeId) (hp : P.underlying pt = some (.pointer e)) (hc : P.cellsOf e = 1) (g o cells : Nat) (hsh : w.shape? g = some (e, cells)) (l : List UInt8) (h0 : l ≠ []) (hn : o + l.length ≤ cells) (h63 : l.length ≤ 9223372036854775807)
  (hcell : ∀ j x, l[j]? = some x → w.cell? ⟨g, o + j, none⟩ = some (.int .u8 x.toNat)) :
  (Builtin.unsafeString_ #[pt, it] ty #[.pointer (some ⟨g, o, none⟩), .int .i64 l.length]).run P w = .ok (.string ⟨l.toArray⟩) (w.freeze ⟨g, o, none⟩ l.length) := by
 have hl : l.length ≠ 0 := by simpa using h0
 have hlb := Lib.run_loadBytes (P := P) w l ⟨g, o, none⟩ .empty (fun j x hx => by rw [Addr.add_lit]; exact hcell j x hx)
 have hlies := liesAt_off (P := P) hc (cells / P.cellsOf e) o l.length (by rw [hc]; simpa using hn)
 have h63' : ¬ (9223372036854775807 : Int) < (l.length : Int) := by omega
 obtain ⟨A,B,D,hdef⟩ : ∃ (A B : Sem Unit) (D : Sem Value), Builtin.unsafeString_ #[pt, it] ty #[.pointer (some ⟨g, o, none⟩), .int .i64 l.length] =
   (do
    let n ← asInt (.int .i64 l.length)
    if n < 0 then A
    if n > IntKind.i64.max then B
    if n = 0 then pure (.string .empty)
    else if ← variablesAt ⟨g, o, none⟩ (← elemOf pt) n.toNat then do
     let s ← loadBytes ⟨g, o, none⟩ .empty n.toNat
     freeze ⟨g, o, none⟩ n.toNat
     pure (.string s)
    else D) := ⟨_,_,_,rfl⟩
 rw [hdef]
 have hmax : IntKind.i64.max = 9223372036854775807 := rfl
 have hneg : ¬ (l.length : Int) < 0 := by omega
 simp [asInt, asIntOf, hmax, h63', hneg, hl, variablesAt, hsh, elemOf, run_underlying hp, hlies, hlb]
theorem st_unsafeString {x y : Operand} {t u d e : Nat} {ty : TypeId} {pos : String} {aft : Array Edge} {gd : Option (Nat × Bool)} {r : SR Unit} {l : List UInt8} {q : Option Addr} {H' : List Chunk}
  (hsel : Sel H (trow (α := UInt8) e r l) H') (hq : r.a = none ∨ r.cap ≠ 0 → q = r.a)
  (k : C ((d, .v (.string (⟨l⟩ : Str).ba)) :: ρ) H')
  (hx : Gets ρ true x (.pointer q) := by exact gT)
  (hy : Gets ρ true y (.int .i64 (l.length : Int)) := by exact gT)
  (hd : Nat.blt d n = true := by rfl) (hp : P.underlying t = some (.pointer e) := by kernel_rfl) (hc : P.cellsOf e = 1 := by kernel_rfl) :
  StepO P n κ ⟨some d, .call { callee := .builtin .unsafeString, args := #[x, y], argTypes := #[t, u] }, ty, pos, aft, gd⟩ ρ H C := by
 intro K Q hs w act hm ho
 have hd' : d < n := by simpa [Nat.blt_eq] using hd
 obtain ⟨cs, hcs⟩ := exec_builtin2 act.eval .unsafeString x y #[t, u] (some d) ty pos aft gd
 unfold Oper.wp
 rw [hcs, hx.eval ho rfl, hy.eval ho rfl]
 have hm0 := hm
 obtain ⟨S, hms⟩ := hm
 have hmem : trow (α := UInt8) e r l ∈ H := hsel.perm.mem_iff.2 List.mem_cons_self
 have hφ := (hms.all _ hmem).1
 by_cases hl : l = []
 ·subst hl
  rw [show (builtin .unsafeString #[t, u] ty cs #[.pointer q, .int .i64 (([] : List UInt8).length : Int)]).run P w = _ from run_value (Lib.run_unsafeString_none w t u ty q)]
  refine hs _ _ k w _ ((hm0.perm hsel.perm).sub (List.sublist_cons_self _ _)) (ho.put hd' rfl)
 ·rcases hφ.2 with ⟨_, h, _⟩ | ⟨gb, o, cur, ha, hgb, h3, h4, h5⟩
  ·exact absurd h hl
  ·have hcap : r.cap ≠ 0 := by
    have : 0 < l.length := List.length_pos_iff.2 hl
    omega
   have hqe : q = some ⟨gb, o, none⟩ := (hq (.inr hcap)).trans ha
   subst hqe
   have hb := hφ.1
   have hb' : l.length ≤ 140737488355328 := by have : l.length * 1 ≤ 140737488355328 := hb; omega
   have h4' : o + r.cap ≤ cur.size := by have : o + r.cap * 1 ≤ cur.size := h4; omega
   have hrun := run_unsafeString_off (P := P) (w := w) t u ty e hp hc gb o cur.size (by simp [World.shape?, hgb]) l hl (by omega) (by omega) (fun j x hx => by
    have := (h5 j x hx).1 0 _ rfl
    have e1 : o + (j * GoRep.n UInt8 + 0) = o + j := by show o + (j * 1 + 0) = _; omega
    rw [e1] at this
    simp [World.cell?, hgb, this])
   rw [show (builtin .unsafeString #[t, u] ty cs #[.pointer (some ⟨gb, o, none⟩), .int .i64 (l.length : Int)]).run P w = _ from run_value hrun]
   have hblt : gb < w.heap.size := (Array.getElem?_eq_some_iff.1 hgb).1
   have hfr : Frame (trow (α := UInt8) e r l).fp w (w.freeze ⟨gb, o, none⟩ l.length) := by
    unfold World.freeze
    split
    ·exact Frame.refl _ w
    ·refine ⟨rfl, rfl, rfl, by simp, fun k _ hn => ?_⟩
     have hne : gb ≠ k := fun h => hn ⟨_, ha, h.symm⟩
     simp [Array.getElem?_modify, hne]
   let c0 : Chunk := ⟨fun _ => False, fun _ _ => True, fun _ _ _ _ _ => trivial, fun _ _ _ _ _ => trivial⟩
   have hm1 : MemS S κ (trow (α := UInt8) e r l :: H') w := hms.perm hsel.perm
   have hm2 := hm1.upd (c' := c0) .head hfr (fun _ h => h) (fun _ h => .inl h) (fun k hk => Nat.lt_of_lt_of_le (hms.lt k hk) hfr.size) trivial (fun k hk => hk.elim)
   exact hs _ _ k _ _ ⟨S, hm2.sub' (List.sublist_cons_self _ _)⟩ (ho.put hd' rfl)
end
/-! ### Package-level variables -/
def gint (g : Nat) : Chunk where
 fp := fun _ => False
 φ := fun S w => S g ∧ ∃ m : Int, w.cell? ⟨g, 0, none⟩ = some (.int .i64 m)
 dep := fun S w w' h hw => ⟨hw.1, by rw [World.cell?_of_block (w := w) (h g (.inr hw.1))]; exact hw.2⟩
 mono := fun S S' w h hw => ⟨h _ hw.1, hw.2⟩
theorem Mem.factP {S : Soup} {w : World} {cs H : List Chunk} {c : Chunk} (hm : Mem (κof w S cs) H w) (hf : ∀ k, ¬ c.fp k) (h : c.φ S w) : Mem (κof w S cs) (c :: H) w := by
 obtain ⟨S', hs⟩ := hm
 exact ⟨S', hs.add (Frame.refl _ w) (fun _ h => h) (fun _ h => .inl h) hs.lt (c.mono S S' w hs.sub h) (fun k hk => (hf k hk).elim)⟩
/-! ### A range over a string -/
section
variable {P : Program} {n : Nat} {κ : Ctx} {ρ : Env} {H : List Chunk} {C : Env → List Chunk → Prop} {g : Bool}
end
end Go.Dc
namespace Go.Dc
open Go.RowKit GoRep
def gtab (g : Nat) (vs : List Value) : Chunk where
 fp := fun _ => False
 φ := fun S w => S g ∧ ∃ T fz, w.heap[g]? = some (.cells vs.toArray T fz)
 dep := fun S w w' h hw => ⟨hw.1, by rw [h g (.inr hw.1)]; exact hw.2⟩
 mono := fun S S' w h hw => ⟨h _ hw.1, hw.2⟩
theorem gtab_is {P : Program} {g : Nat} {name : String} {k : IntKind} {zs : List Int} {S : Soup} {w : World} (h : (gtab g (zs.map fun z => .int k z)).φ S w) (hg : P.globalNamed name = some g) : Lib.TabIs P w name k zs := by
 obtain ⟨_, T, fz, hc⟩ := h
 unfold Lib.TabIs World.var?
 rw [hg]
 simp [hc]
theorem gtab_of {P : Program} {g : Nat} {name : String} {vs : List Value} {w : World} (h : w.var? P name = some vs.toArray) (hg : P.globalNamed name = some g) : (gtab g vs).φ (fun k => k < w.heap.size) w := by
 unfold World.var? at h
 rw [hg] at h
 simp only [Option.bind_some] at h
 split at h
 ·rename_i cs T fz hc
  have : cs = vs.toArray := Option.some.inj h
  subst this
  exact ⟨(Array.getElem?_eq_some_iff.1 hc).1, T, fz, hc⟩
 ·cases h
section
variable {P : Program} {n : Nat} {κ : Ctx} {ρ : Env} {H : List Chunk} {g : Bool}
def arrT (P : Program) (t m : Nat) : Bool := match P.underlying t with
 | some (.array k e) => k == m && (match P.info? e with | some i => i.size == 1 | none => false) && oneT P e
 | _ => false
/-! Two or three operations that may come up, before the region's last. -/
def OneZ (P : Program) (n : Nat) (κ : Ctx) (ops : Array Oper) (K : Act → World → Prop) (Hs : List Chunk) (z fuel : Nat) (listed : Array Bool) (ρ : Env) (H : List Chunk) (i : Nat) : Prop :=
 ∃ o, ops[i]? = some o ∧ o.guard = none ∧ StepO P n κ o ρ H (fun ρ' H' => (∀ w, Mem κ H' w → Mem κ Hs w) ∧ AZ P n κ ops K Hs z fuel (listed.setIfInBounds i true) ρ' H')
section
variable {ops : Array Oper} {K : Act → World → Prop} {Hs : List Chunk} {z fuel : Nat} {listed : Array Bool}
theorem OneZ.wpOp {i : Nat} (h : OneZ P n κ ops K Hs z fuel listed ρ H i) {w : World} {a : Act} (hm : Mem κ H w) (ho : Ok n ρ a) :
  Go.wpOp P ops (fun e a w => e = .normal ∧ K a w) i (fun a' w' => (i ≠ z → Mem κ Hs w') ∧ wpAnyZ P .any ops (fun e a w => e = .normal ∧ K a w) (fun w => Mem κ Hs w) z fuel (listed.setIfInBounds i true) a' w') a w := by
 obtain ⟨o, hi, hg, hs⟩ := h
 unfold Go.wpOp
 simp only [hi, Region.wanted, hg, if_true]
 refine .inl (hs _ _ ?_ w a hm ho)
 intro ρ' H' ⟨c1, c2⟩ w' a' hm' ho'
 exact ⟨fun _ => c1 w' hm', c2 w' a' hm' ho'⟩
end
variable {C : Env → List Chunk → Prop}
end
end Go.Dc
namespace Go.Dc
open Go.RowKit GoRep
theorem laid_var {P : Program} {w : World} : ∀ {l : List (String × DataW Unit)} {ps : List MemPlace}, DataW.LaidVars P w l ps → ∀ (n : String) (d : DataW Unit), (n, d) ∈ l →
  ∃ g t cs fuel p, P.globalNamed n = some g ∧ (P.globals[g]?).map (·.type) = some t ∧ w.var? P n = some cs ∧ DataW.trod (fun _ => ()) P w 0 (fun _ => true) false fuel t cs.toList = some (d, p)
 | [], _, _, n, d, hm => by simp at hm
 | (n', d') :: r, ps, h, n, d, hm => by
  obtain ⟨g, t, cs, fuel, p, q, h1, h2, h3, h4, h5, _⟩ := h
  rcases List.mem_cons.1 hm with e | e
  ·cases e; exact ⟨g, t, cs, fuel, p, h1, h2, h3, h4⟩
  ·exact laid_var h5 n d e
theorem laidH_var {P : Program} {w : World} {l : List (String × DataW Unit)} (h : laidMetH P l w) (n : String) (d : DataW Unit) (hm : (n, d) ∈ l) (hd : d.handleName? = none) :
  ∃ g t cs fuel p, P.globalNamed n = some g ∧ (P.globals[g]?).map (·.type) = some t ∧ w.var? P n = some cs ∧ DataW.trod (fun _ => ()) P w 0 (fun _ => true) false fuel t cs.toList = some (d, p) := by
 obtain ⟨⟨ps, hl, _⟩, _⟩ := laidMetH_iff.1 h
 exact laid_var hl n d (List.mem_filter.2 ⟨hm, by simp [hd]⟩)
def garrB (P : Program) (name : String) (g n : Nat) (k : Option IntKind) : Bool :=
 decide (P.globalNamed name = some g) && match (P.globals[g]?).map (·.type) with
 | some t => decide (P.cellsOf t = n) && match P.underlying t with
  | some (.array m e) => decide (m = n) && decide (P.cellsOf e = 1) && match P.underlying e, k with
   | some (.int k'), some k => decide (k' = k)
   | some .string, none => true
   | _, _ => false
  | _ => false
 | none => false
theorem garr_ints {P : Program} {name : String} {g n : Nat} {k : IntKind} (h : garrB P name g n (some k) = true) :
  P.globalNamed name = some g ∧ ∃ t e, (P.globals[g]?).map (·.type) = some t ∧ P.underlying t = some (.array n e) ∧ P.underlying e = some (.int k) ∧ P.cellsOf e = 1 ∧ P.cellsOf t = n := by
 unfold garrB at h
 simp only [Bool.and_eq_true, decide_eq_true_eq] at h
 refine ⟨h.1, ?_⟩
 have h := h.2
 split at h
 ·rename_i t ht
  simp only [Bool.and_eq_true, decide_eq_true_eq] at h
  obtain ⟨hc, h⟩ := h
  split at h
  ·rename_i m e hu
   simp only [Bool.and_eq_true, decide_eq_true_eq] at h
   obtain ⟨⟨rfl, h1⟩, h2⟩ := h
   split at h2
   ·rename_i k' k2 he hk
    cases hk
    simp only [decide_eq_true_eq] at h2
    subst h2
    exact ⟨t, e, ht, hu, he, h1, hc⟩
   ·rename_i hk; cases hk
   ·cases h2
  ·cases h
 ·cases h
theorem laid_ints {P : Program} {w : World} {l : List (String × DataW Unit)} (h : laidMetH P l w) (n : String) (g m : Nat) (k : IntKind) (zs : List Int) (hb : garrB P n g m (some k) = true) (hm : (n, Lib.tabData k zs) ∈ l) : (gtab g (zs.map fun z => .int k z)).φ (fun k => k < w.heap.size) w := by
 obtain ⟨hg, t, e, h1, h2, h3, h4, h5⟩ := garr_ints hb
 obtain ⟨g', t', cs, fuel, p, e1, e2, e3, e4⟩ := laidH_var h n _ hm rfl
 obtain rfl := Option.some.inj (hg.symm.trans e1)
 obtain rfl := Option.some.inj (h1.symm.trans e2)
 refine gtab_of ?_ hg
 rw [e3, ← Lib.cells_of_tab h2 h3 h4 h5 e4]
end Go.Dc
namespace Go.Dc
open Go.RowKit GoRep
section
variable {P : Program} {n : Nat} {κ : Ctx} {ρ : Env} {H : List Chunk} {g : Bool}
theorem ev_fidx {x y : Operand} {t m : Nat} {k : IntKind} {i : Int} {xs : List Nat} {v : Nat} (l : List Value) (hi : g = true → idx xs i = some v) (hl : l = xs.map (fun s => .func (.func s) #[] #[]) := by rfl) (hm : xs.length = m := by rfl)
  (hx : Gets ρ g x (.agg l.toArray) := by exact gT) (hy : Gets ρ g y (.int k i) := by exact gT)
  (ht : arrT P t m = true := by kernel_rfl) : Ev P n κ H ρ g (.index t x y) (.func (.func v) #[] #[]) := by
 intro w a dst ty pos aft gd hm' ho hg
 have e1 := hx.eval ho hg
 have e2 := hy.eval ho hg
 obtain ⟨h0, hlt, hv⟩ := idx_some (hi hg)
 unfold arrT at ht
 split at ht
 ·rename_i kk e hu
  simp only [Bool.and_eq_true, beq_iff_eq] at ht
  obtain ⟨⟨h1, h2⟩, h3⟩ := ht
  cases hti : P.info? e with
  | none => rw [hti] at h2; cases h2
  | some ti =>
   rw [hti] at h2
   simp at h2
   show (Instr.index t (a.eval x) (a.eval y) >>= fun v => pure (Next.value v)).run P w = _
   rw [e1, e2]
   refine run_value ?_
   unfold Instr.index
   show (underlying t >>= _).run P w = _
   rw [run_bind_ok (run_under hu w)]
   have hb : 0 ≤ i ∧ i < (kk : Int) := by rw [h1, ← hm]; exact ⟨h0, hlt⟩
   simp only [hb, and_self, if_true]
   rw [run_bind_ok (run_size hti w), h2, Nat.mul_one]
   refine run_part_one h3 ?_
   subst hl
   simp [hv]
 ·cases ht
/-! ### Regions of many orders: every set of what has come up is one lemma -/
variable {ops : Array Oper} {K : Act → World → Prop} {Hs : List Chunk} {fuel : Nat} {listed : Array Bool}
def AllM (Q : Nat × EV → Prop) : Env → Prop
 | [] => True
 | p :: r => Q p ∧ AllM Q r
theorem AllM.mem {Q : Nat × EV → Prop} : ∀ {l : Env}, AllM Q l → ∀ p ∈ l, Q p
 | _ :: _, h, p, hp => (List.mem_cons.1 hp).elim (fun e => e ▸ h.1) (fun hp => AllM.mem h.2 p hp)
end
end Go.Dc
namespace Go.Dc
open Go.RowKit GoRep
def SR.put {ρ : Type} (r : SR ρ) (i : Nat) (q : ρ) : SR ρ := ⟨r.a, r.cap, fun j => if j = i then q else r.es j⟩
def hrow {α : Type} [GoRep α] (on : Nat → Prop) (e : TypeId) (r : SR (R α)) (xs : List α) : Chunk where
 fp := fun k => ∃ p, r.a = some p ∧ k = p.block
 φ := fun S w => xs.length * GoRep.bytes α ≤ 140737488355328 ∧ ((r.a = none ∧ xs = [] ∧ r.cap = 0) ∨
  ∃ g o cur, r.a = some ⟨g, o, none⟩ ∧ w.heap[g]? = some (.cells cur e (0, 0)) ∧ xs.length ≤ r.cap ∧ o + r.cap * n α ≤ cur.size ∧
   ∀ i x, xs[i]? = some x → (∀ j v, (enc (r.es i) x)[j]? = some v → cur[o + (i * n α + j)]? = some v) ∧ (on i → ok S w (r.es i) x))
 dep := fun S w w' h hw => by
  refine ⟨hw.1, ?_⟩
  rcases hw.2 with h2 | ⟨g, o, cur, ha, hg, h3, h4, h5⟩
  ·exact .inl h2
  ·refine .inr ⟨g, o, cur, ha, ?_, h3, h4, fun i x hx => ⟨(h5 i x hx).1, fun ho => GoRep.dep S w w' _ _ (fun k hk => h k (.inr hk)) ((h5 i x hx).2 ho)⟩⟩
   rw [h g (.inl ⟨_, ha, rfl⟩)]
   exact hg
 mono := fun S S' w h hw => by
  refine ⟨hw.1, ?_⟩
  rcases hw.2 with h2 | ⟨g, o, cur, ha, hg, h3, h4, h5⟩
  ·exact .inl h2
  ·exact .inr ⟨g, o, cur, ha, hg, h3, h4, fun i x hx => ⟨(h5 i x hx).1, fun ho => GoRep.mono S S' w _ _ h ((h5 i x hx).2 ho)⟩⟩
section
variable {P : Program} {n : Nat} {κ : Ctx} {ρ : Env} {H : List Chunk} {g : Bool} {C : Env → List Chunk → Prop}
theorem st_setH {α : Type} [GoRep α] {x y : Operand} {t e : Nat} {ty : TypeId} {pos : String} {aft : Array Edge} {gd : Option (Nat × Bool)} {on : Nat → Prop} {r : SR (R α)} {xs : List α} {i : Int} {u : α} {o m : Nat} {v : Value} {vs : List Value} {H' : List Chunk}
  (j : Nat) (u' : α) (q : R α) (on' : Nat → Prop) (hon : ∀ k, on' k → on k ∧ k ≠ i.toNat) (hi : idx xs i = some u) (henc : enc q u' = setAll (enc (r.es i.toNat) u) j vs)
  (hu : Upd H (hrow on e r xs) (hrow on' e (r.put i.toNat q) (xs.set i.toNat u')) H') (k : C ρ H')
  (hx : Gets ρ true x (.pointer (some ⟨sb r.a, o, none⟩)) := by exact gT) (hy : Gets ρ true y v := by exact gT)
  (hvs : v.cells = vs.toArray := by rfl) (hlen : vs.length = m := by rfl) (h10 : vs.all Value.oneCell' = true := by rfl)
  (ho' : o = so r.a + (i.toNat * GoRep.n α + j) := by first | rfl | (show _ = _ + (_ * (_ : Nat) + _); omega)) (hj0 : Nat.ble (j + m) (GoRep.n α) = true := by rfl)
  (ht : P.cellsOf t = m := by kernel_rfl) (hti : (P.info? t).isSome = true := by kernel_rfl) : StepO P n κ ⟨none, .store t x y, ty, pos, aft, gd⟩ ρ H C := by
 have hj : j + m ≤ GoRep.n α := by simpa [Nat.ble_eq] using hj0
 intro K Q hs w a hm ho
 obtain ⟨hi0, hilt, hget⟩ := idx_some hi
 obtain ⟨S, hms⟩ := hm
 have hφ := hu.has.φ hms
 have hin := (hms.all _ hu.has.mem).2
 have e1 := hx.eval ho rfl
 have e2 := hy.eval ho rfl
 rcases hφ.2 with ⟨_, h0, _⟩ | ⟨gb, off, cur, ha, hgb, h3, h4, h5⟩
 ·subst h0; simp at hilt; omega
 ·rw [ha] at e1
  have hoff : o = off + (i.toNat * GoRep.n α + j) := by rw [ho', ha]; rfl
  have e1' : a.eval x = .pointer (some ⟨gb, o, none⟩) := e1
  have hfit : o + 0 + vs.length ≤ cur.size := by
   have : i.toNat * GoRep.n α + GoRep.n α ≤ r.cap * GoRep.n α := by rw [← Nat.succ_mul]; exact Nat.mul_le_mul_right _ (by omega)
   omega
  have hst := run_storeCells_at P gb o e vs 0 cur w hgb hfit (List.all_eq_true.1 h10)
  simp only [Nat.add_zero] at hst
  cases hinf : P.info? t with
  | none => rw [hinf] at hti; cases hti
  | some ti =>
   have hsz : ti.size = m := by simpa [Program.cellsOf, hinf] using ht
   have hrun : (execOp a.eval ⟨none, .store t x y, ty, pos, aft, gd⟩).run P w = .ok .skip (w.setRow gb (cur.toList.take o ++ vs ++ cur.toList.drop (o + vs.length)).toArray) := by
    show ((Instr.storeAt t (a.eval x) (a.eval y)) >>= fun _ => pure Next.skip).run P w = _
    rw [e1', e2]
    have : (Instr.storeAt t (.pointer (some ⟨gb, o, none⟩)) v).run P w = .ok () (w.setRow gb (cur.toList.take o ++ vs ++ cur.toList.drop (o + vs.length)).toArray) := by
     show (storeVar t ⟨gb, o, none⟩ v).run P w = _
     unfold storeVar
     rw [run_bind_ok (run_size hinf w), hvs]
     have hsz2 : ¬ (vs.toArray.size ≠ ti.size) := by simp [hlen, hsz]
     simp only [hsz2, if_false]
     exact hst
    rw [run_bind_ok this]
    rfl
   unfold Oper.wp
   rw [hrun]
   have hcl : cur.toList.length = cur.size := Array.length_toList
   have hpre : (cur.toList.take o).length = o := by rw [List.length_take, hcl]; omega
   have hne : ∀ k, k ≠ gb → (w.setRow gb (cur.toList.take o ++ vs ++ cur.toList.drop (o + vs.length)).toArray).heap[k]? = w.heap[k]? := fun k hk => by
    simp [World.setRow, Array.getElem?_modify, Ne.symm hk]
   refine hs _ _ k _ _ ⟨S, hms.upd hu ⟨rfl, rfl, rfl, by simp [World.setRow], fun kk _ hn => hne kk (fun h => hn ⟨_, ha, h⟩)⟩ (fun _ h => h) (fun _ h => .inl h) (fun k hk => by simpa [World.setRow] using hms.lt k hk) ⟨by rw [List.length_set]; exact hφ.1, .inr ⟨gb, off, _, ha, setRow_heap w gb cur _ e (0, 0) hgb, by rw [List.length_set]; exact h3, ?_, ?_⟩⟩ ?_⟩ ho
   ·simp only [List.size_toArray, List.length_append, hpre, List.length_drop, hcl]
    show off + r.cap * _ ≤ _
    omega
   ·intro p z hq
    have hSne : ∀ k, S k → (w.setRow gb (cur.toList.take o ++ vs ++ cur.toList.drop (o + vs.length)).toArray).heap[k]? = w.heap[k]? := fun k hk => hne k (fun h => by subst h; exact (hin k ⟨_, ha, rfl⟩).2.1 hk)
    have cells : ∀ c, (cur.toList.take o ++ vs ++ cur.toList.drop (o + vs.length))[c]? = if c < o then cur[c]? else if c < o + vs.length then vs[c - o]? else cur[c]? := fun c => by
     by_cases hc : c < o
     ·rw [if_pos hc, List.append_assoc, List.getElem?_append_left (by omega), List.getElem?_take, if_pos hc]; simp
     ·rw [if_neg hc, List.append_assoc, List.getElem?_append_right (by omega), hpre]
      by_cases hc2 : c < o + vs.length
      ·rw [if_pos hc2, List.getElem?_append_left (by omega)]
      ·rw [if_neg hc2, List.getElem?_append_right (by omega), List.getElem?_drop]
       rw [show o + vs.length + (c - o - vs.length) = c by omega]; simp
    by_cases hqi : p = i.toNat
    ·subst hqi
     rw [List.getElem?_set_self (by omega)] at hq
     cases hq
     have hput : (r.put i.toNat q).es i.toNat = q := by simp [SR.put]
     rw [hput]
     refine ⟨fun j' v' hv' => ?_, fun h => absurd rfl (hon _ h).2⟩
     have hj' : j' < GoRep.n α := by have := (List.getElem?_eq_some_iff.1 hv').1; rwa [GoRep.len] at this
     simp only [List.getElem?_toArray]
     rw [cells]
     rw [henc] at hv'
     by_cases hin' : j ≤ j' ∧ j' < j + vs.length
     ·have e3 : j' = j + (j' - j) := by omega
      rw [e3, setAll_get_in vs _ j (j' - j) (by omega) (by rw [GoRep.len]; omega)] at hv'
      rw [if_neg (by omega), if_pos (by omega)]
      rw [show off + (i.toNat * GoRep.n α + j') - o = j' - j by omega]
      exact hv'
     ·rw [setAll_get_out vs _ j j' (by omega)] at hv'
      have := (h5 _ u hget).1 j' v' hv'
      by_cases hc : off + (i.toNat * GoRep.n α + j') < o
      ·rw [if_pos hc]; exact this
      ·rw [if_neg hc, if_neg (by omega)]; exact this
    ·rw [List.getElem?_set_ne (Ne.symm hqi)] at hq
     have hput : (r.put i.toNat q).es p = r.es p := by simp [SR.put, hqi]
     rw [hput]
     refine ⟨fun j' v' hv' => ?_, fun ho => GoRep.dep S w _ _ _ hSne ((h5 p z hq).2 (hon _ ho).1)⟩
     have hj' : j' < GoRep.n α := by have := (List.getElem?_eq_some_iff.1 hv').1; rwa [GoRep.len] at this
     have := (h5 p z hq).1 j' v' hv'
     simp only [List.getElem?_toArray]
     rw [cells]
     rcases Nat.lt_or_gt_of_ne hqi with hlt | hgt
     ·have : p * GoRep.n α + GoRep.n α ≤ i.toNat * GoRep.n α := by rw [← Nat.succ_mul]; exact Nat.mul_le_mul_right _ hlt
      rw [if_pos (by omega)]; assumption
     ·have : i.toNat * GoRep.n α + GoRep.n α ≤ p * GoRep.n α := by rw [← Nat.succ_mul]; exact Nat.mul_le_mul_right _ hgt
      rw [if_neg (by omega), if_neg (by omega)]; assumption
   ·rintro kk ⟨p, hp, rfl⟩
    have := hin p.block ⟨p, hp, rfl⟩
    exact ⟨.inl ⟨p, hp, rfl⟩, by simpa [World.setRow] using this.1, this.2.1⟩
/-! ### Reading -/
def Cl {α : Type} [GoRep α] (κ : Ctx) (H : List Chunk) (r : SR (R α)) (xs : List α) : Prop :=
 ∀ w, Mem κ H w → xs.length ≤ 140737488355328 ∧ ∀ i x, xs[i]? = some x → r.a = some ⟨sb r.a, so r.a, none⟩ ∧ ∀ j v, (enc (r.es i) x)[j]? = some v → w.cell? ⟨sb r.a, so r.a + (i * GoRep.n α + j), none⟩ = some v
theorem Cl.hrow {α : Type} [GoRep α] {on : Nat → Prop} {e : TypeId} {r : SR (R α)} {xs : List α} (h : Has H (Dc.hrow on e r xs)) : Cl κ H r xs := fun w hm => by
 obtain ⟨S, hs⟩ := hm
 have h0 := h.φ hs
 have hb := GoRep.bpos (α := α)
 refine ⟨?_, fun i x hx => ?_⟩
 ·calc xs.length = xs.length * 1 := by omega
   _ ≤ xs.length * GoRep.bytes α := Nat.mul_le_mul_left _ hb
   _ ≤ _ := h0.1
 ·rcases h0.2 with ⟨_, h2, _⟩ | ⟨g, o, cur, ha, hg, h3, h4, h5⟩
  ·subst h2; simp at hx
  ·refine ⟨by rw [ha]; rfl, fun j v hv => ?_⟩
   rw [ha]
   show w.cell? ⟨g, o + (i * GoRep.n α + j), none⟩ = some v
   simp [World.cell?, hg, (h5 i x hx).1 j v hv]
theorem Cl.len {α : Type} [GoRep α] {r : SR (R α)} {xs : List α} (h : Cl κ H r xs) {w : World} (hm : Mem κ H w) : xs.length ≤ 140737488355328 := (h w hm).1
theorem ev_idxH {α : Type} [GoRep α] {x y : Operand} {t : Nat} {k : IntKind} {i : Int} {r : SR (R α)} {xs : List α} {m : Nat} (sz : Nat) (hk : Cl κ H r xs) (hi : g = true → 0 ≤ i ∧ i < xs.length)
  (hx : Gets ρ g x (.slice r.a m r.cap) := by exact gT) (hy : Gets ρ g y (.int k i) := by exact gT)
  (hs : elemSize P t = some sz := by kernel_rfl) (hml : m = xs.length := by first | rfl | simp only [List.length_set, List.length_append, List.length_replicate]) :
  Ev P n κ H ρ g (.indexAddr t x y) (.pointer (some ⟨sb r.a, so r.a + i.toNat * sz, none⟩)) := by
 subst hml
 intro w a dst ty pos aft gd hm ho hg
 have hb := hi hg
 have ha : r.a = some ⟨sb r.a, so r.a, none⟩ := by
  have hlt : i.toNat < xs.length := by omega
  exact ((hk w hm).2 i.toNat xs[i.toNat] (by simp [hlt])).1
 have e1 := hx.eval ho hg
 rw [ha] at e1
 have e2 := hy.eval ho hg
 unfold elemSize at hs
 split at hs
 ·rename_i el hu
  cases hti : P.info? el with
  | none => rw [hti] at hs; cases hs
  | some ti =>
   rw [hti] at hs
   simp at hs
   subst hs
   show (Instr.indexAt t (a.eval x) (a.eval y) >>= fun v => pure (Next.value v)).run P w = _
   rw [e1, e2]
   refine run_value ?_
   unfold Instr.indexAt
   show (underlying t >>= _).run P w = _
   rw [run_bind_ok (run_under hu w)]
   show (underlying t >>= _).run P w = _
   rw [run_bind_ok (run_under hu w)]
   simp only [hb, and_self, if_true]
   rw [run_bind_ok (run_size hti w)]
   show Result.ok (Value.pointer (some (Addr.add ⟨sb r.a, so r.a, none⟩ (i.toNat * ti.size)))) w = _
   rw [Addr.add_lit]
 ·cases hs
theorem ev_ldH {α : Type} [GoRep α] {x : Operand} {t : TypeId} {r : SR (R α)} {xs : List α} {i : Int} {y : α} {o : Nat} {v : Value} (j : Nat) (hk : Cl κ H r xs) (hi : g = true → idx xs i = some y)
  (hv : (enc (r.es i.toNat) y)[j]? = some v) (hx : Gets ρ g x (.pointer (some ⟨sb r.a, o, none⟩)) := by exact gT)
  (ho' : o = so r.a + (i.toNat * GoRep.n α + j) := by first | rfl | (show _ = _ + (_ * (_ : Nat) + _); omega))
  (ht : oneT P t = true := by kernel_rfl) : Ev P n κ H ρ g (.load t x) v :=
 ev_load_cell hx ht fun hg w hm => by rw [ho']; exact ((hk w hm).2 _ y (idx_some (hi hg)).2.2).2 j v hv
theorem SR.put_es {ρ : Type} (r : SR ρ) (i : Nat) (q : ρ) : (r.put i q).es i = q := by simp [SR.put]
end
end Go.Dc
namespace Go.Dc
open Go.RowKit GoRep
class Inner (α : Type) (β : outParam Type) [GoRep α] [GoRep β] where
 get : α → List β
 rep : R α → SR (R β)
 okI : ∀ S w r x, SlOk S w (rep r) (get x) → ok S w r x
section
variable {α β : Type} [GoRep α] [GoRep β] [Inner α β]
def innS (on : Nat → Prop) (e2 : TypeId) (r : SR (R α)) (xs : List α) : Chunk where
 fp := fun k => ∃ i x p, xs[i]? = some x ∧ on i ∧ (Inner.rep (r.es i)).a = some p ∧ k = p.block
 φ := fun S w => (∀ (i : Nat) (x : α), xs[i]? = some x → on i → (trow (α := β) e2 (Inner.rep (r.es i)) (Inner.get x)).φ S w) ∧
  (∀ (i j : Nat) (x y : α) (p q : Addr), i ≠ j → xs[i]? = some x → xs[j]? = some y → on i → on j → (Inner.rep (r.es i)).a = some p → (Inner.rep (r.es j)).a = some q → p.block ≠ q.block)
 dep := fun S w w' h hw => ⟨fun i x hx ho => (trow (α := β) e2 (Inner.rep (r.es i)) (Inner.get x)).dep S w w' (fun k hk => h k (by
  rcases hk with ⟨p, hp, rfl⟩ | hk
  ·exact .inl ⟨i, x, p, hx, ho, hp, rfl⟩
  ·exact .inr hk)) (hw.1 i x hx ho), hw.2⟩
 mono := fun S S' w h hw => ⟨fun i x hx ho => (trow (α := β) e2 (Inner.rep (r.es i)) (Inner.get x)).mono S S' w h (hw.1 i x hx ho), hw.2⟩
def rowsS (on : Nat → Prop) (e e2 : TypeId) (r : SR (R α)) (xs : List α) : Chunk := many [hrow (fun _ => False) e r xs, innS on e2 r xs]
theorem disj_two {c d : Chunk} (h : [c, d].Pairwise Disj) : Disj c d := (List.pairwise_cons.1 h).1 d List.mem_cons_self
variable {P : Program} {n : Nat} {κ : Ctx} {ρ : Env} {H : List Chunk} {g : Bool} {C : Env → List Chunk → Prop}
theorem MemS.cut {S : Soup} {w : World} {c c1 c2 : Chunk} {H : List Chunk} (hm : MemS S κ (c :: H) w) (h1 : c1.φ S w) (h2 : c2.φ S w) (f1 : ∀ k, c1.fp k → c.fp k) (f2 : ∀ k, c2.fp k → c.fp k) (hd : Disj c1 c2) :
  MemS S κ (c1 :: c2 :: H) w := by
 have h0 := hm.all _ List.mem_cons_self
 have hp := List.pairwise_cons.1 hm.disj
 refine ⟨hm.frame, hm.sub, hm.sup, hm.lt, fun d hd' => ?_, ?_⟩
 ·rcases List.mem_cons.1 hd' with rfl | hd'
  ·exact ⟨h1, fun k hk => h0.2 k (f1 k hk)⟩
  ·rcases List.mem_cons.1 hd' with rfl | hd'
   ·exact ⟨h2, fun k hk => h0.2 k (f2 k hk)⟩
   ·exact hm.all d (List.mem_cons_of_mem _ hd')
 ·rw [List.pairwise_cons, List.pairwise_cons]
  refine ⟨fun d hd' k hk hk' => ?_, fun d hd' k hk hk' => hp.1 d hd' k (f2 k hk) hk', hp.2⟩
  rcases List.mem_cons.1 hd' with rfl | hd'
  ·exact hd k hk hk'
  ·exact hp.1 d hd' k (f1 k hk) hk'
theorem MemS.glue {S : Soup} {w : World} {c c1 c2 : Chunk} {H : List Chunk} (hm : MemS S κ (c1 :: c2 :: H) w) (h : c.φ S w) (f : ∀ k, c.fp k → c1.fp k ∨ c2.fp k) : MemS S κ (c :: H) w := by
 have h1 := hm.all _ List.mem_cons_self
 have h2 := hm.all _ (List.mem_cons_of_mem _ List.mem_cons_self)
 have hp := List.pairwise_cons.1 hm.disj
 have hp2 := List.pairwise_cons.1 hp.2
 refine ⟨hm.frame, hm.sub, hm.sup, hm.lt, fun d hd' => ?_, ?_⟩
 ·rcases List.mem_cons.1 hd' with rfl | hd'
  ·exact ⟨h, fun k hk => (f k hk).elim (h1.2 k) (h2.2 k)⟩
  ·exact hm.all d (List.mem_cons_of_mem _ (List.mem_cons_of_mem _ hd'))
 ·rw [List.pairwise_cons]
  refine ⟨fun d hd' k hk hk' => ?_, hp2.2⟩
  rcases f k hk with hk | hk
  ·exact hp.1 d (List.mem_cons_of_mem _ hd') k hk hk'
  ·exact hp2.1 d hd' k hk hk'
theorem MemS.swap1 {S : Soup} {w : World} {c c' : Chunk} {H : List Chunk} (hm : MemS S κ (c :: H) w) (h : c'.φ S w) (f : ∀ k, c'.fp k → c.fp k) : MemS S κ (c' :: H) w := by
 have h1 := hm.all _ List.mem_cons_self
 have hp := List.pairwise_cons.1 hm.disj
 refine ⟨hm.frame, hm.sub, hm.sup, hm.lt, fun d hd' => ?_, ?_⟩
 ·rcases List.mem_cons.1 hd' with rfl | hd'
  ·exact ⟨h, fun k hk => h1.2 k (f k hk)⟩
  ·exact hm.all d (List.mem_cons_of_mem _ hd')
 ·rw [List.pairwise_cons]
  exact ⟨fun d hd' k hk hk' => hp.1 d hd' k (f k hk) hk', hp.2⟩
theorem MemS.flip {S : Soup} {w : World} {c d : Chunk} {H : List Chunk} (hm : MemS S κ (c :: d :: H) w) : MemS S κ (d :: c :: H) w := hm.perm (List.Perm.swap _ _ _)
theorem MemS.openR {S : Soup} {on : Nat → Prop} {e e2 : TypeId} {r : SR (R α)} {xs : List α} {w : World} {H1 : List Chunk} (hm : MemS S κ H w) (hsel : Sel H (rowsS on e e2 r xs) H1) :
  MemS S κ (hrow (fun _ => False) e r xs :: innS on e2 r xs :: H1) w := (hm.perm hsel.perm).unfold
theorem Mem.openS {e e2 : TypeId} {r : SR (R α)} {xs : List α} {w : World} {H1 : List Chunk} {i : Int} {x : α} (hm : Mem κ H w) (hi : idx xs i = some x)
  (hsel : Sel H (rowsS (fun _ => True) e e2 r xs) H1) : Mem κ (trow (α := β) e2 (Inner.rep (r.es i.toNat)) (Inner.get x) :: rowsS (fun j => j ≠ i.toNat) e e2 r xs :: H1) w := by
 obtain ⟨S, hs⟩ := hm
 have hx := (idx_some hi).2.2
 have h1 := (hs.openR hsel).flip
 have hφ := (h1.all _ List.mem_cons_self).1
 have h2 : MemS S κ (trow (α := β) e2 (Inner.rep (r.es i.toNat)) (Inner.get x) :: innS (fun j => j ≠ i.toNat) e2 r xs :: hrow (fun _ => False) e r xs :: H1) w := by
  refine h1.cut (hφ.1 _ x hx trivial) ⟨fun j y hy _ => hφ.1 j y hy trivial, fun a b y z p q hne hy hz _ _ => hφ.2 a b y z p q hne hy hz trivial trivial⟩ ?_ ?_ ?_
  ·rintro k ⟨p, hp, rfl⟩; exact ⟨_, x, p, hx, trivial, hp, rfl⟩
  ·rintro k ⟨j, y, p, hy, _, hp, rfl⟩; exact ⟨j, y, p, hy, trivial, hp, rfl⟩
  ·rintro k ⟨p, hp, rfl⟩ ⟨j, y, q, hy, hne, hq, he⟩
   exact hφ.2 j i.toNat y x q p hne hy hx trivial trivial hq hp he.symm
 have h3 : MemS S κ (hrow (fun _ => False) e r xs :: innS (fun j => j ≠ i.toNat) e2 r xs :: trow (α := β) e2 (Inner.rep (r.es i.toNat)) (Inner.get x) :: H1) w :=
  h2.perm (((List.Perm.swap _ _ _).trans ((List.Perm.swap _ _ _).cons _)).trans (List.Perm.swap _ _ _))
 have h4 : MemS S κ (rowsS (fun j => j ≠ i.toNat) e e2 r xs :: trow (α := β) e2 (Inner.rep (r.es i.toNat)) (Inner.get x) :: H1) w := MemS.fold (cs := [hrow (fun _ => False) e r xs, innS (fun j => j ≠ i.toNat) e2 r xs]) h3
 exact ⟨S, h4.flip⟩
theorem Mem.weakS {on on' : Nat → Prop} {e e2 : TypeId} {r : SR (R α)} {xs : List α} {w : World} {H' : List Chunk} (hm : Mem κ H w) (hon : ∀ i, on' i → on i)
  (hu : Upd H (rowsS on e e2 r xs) (rowsS on' e e2 r xs) H') : Mem κ H' w := by
 obtain ⟨S, hs⟩ := hm
 have h0 := hs.all _ hu.has.mem
 have h1 := h0.1.1 _ List.mem_cons_self
 have h2 := h0.1.1 _ (List.mem_cons_of_mem _ List.mem_cons_self)
 have hdd := disj_two h0.1.2
 have sub2 : ∀ k, (innS on' e2 r xs).fp k → (innS on e2 r xs).fp k := by rintro k ⟨i, x, p, hx, ho, hp, rfl⟩; exact ⟨i, x, p, hx, hon i ho, hp, rfl⟩
 have sub : ∀ k, (rowsS on' e e2 r xs).fp k → (rowsS on e e2 r xs).fp k := by
  rintro k ⟨c, hc, hk⟩
  rcases List.mem_cons.1 hc with rfl | hc
  ·exact ⟨_, List.mem_cons_self, hk⟩
  ·obtain rfl := List.mem_singleton.1 hc
   exact ⟨_, List.mem_cons_of_mem _ List.mem_cons_self, sub2 k hk⟩
 refine ⟨S, hs.upd hu (Frame.refl _ w) (fun _ h => h) (fun _ h => .inl h) hs.lt ⟨fun c hc => ?_, ?_⟩ (fun k hk => ⟨.inl (sub k hk), (h0.2 k (sub k hk)).1, (h0.2 k (sub k hk)).2.1⟩)⟩
 ·rcases List.mem_cons.1 hc with rfl | hc
  ·exact h1
  ·obtain rfl := List.mem_singleton.1 hc
   exact ⟨fun i x hx ho => h2.1 i x hx (hon i ho), fun i j x y p q hne hx hy hi hj => h2.2 i j x y p q hne hx hy (hon i hi) (hon j hj)⟩
 ·rw [List.pairwise_cons]
  refine ⟨fun c hc => ?_, by simp⟩
  obtain rfl := List.mem_singleton.1 hc
  exact fun k hk hk' => hdd k hk (sub2 k hk')
theorem Mem.shutS {e e2 : TypeId} {r : SR (R α)} {xs : List α} {w : World} {H1 H2 : List Chunk} {i : Int} {x : α} {q : SR (R β)} {u : List β} (hm : Mem κ H w) (hi : idx xs i = some x) (hq : Inner.rep (r.es i.toNat) = q) (hg : Inner.get x = u)
  (hsel : Sel H (trow (α := β) e2 q u) H1) (hsel2 : Sel H1 (rowsS (fun j => j ≠ i.toNat) e e2 r xs) H2) : Mem κ (rowsS (fun _ => True) e e2 r xs :: H2) w := by
 subst hq hg
 obtain ⟨S, hs⟩ := hm
 have hx := (idx_some hi).2.2
 have h1 : MemS S κ (trow (α := β) e2 (Inner.rep (r.es i.toNat)) (Inner.get x) :: rowsS (fun j => j ≠ i.toNat) e e2 r xs :: H2) w := hs.perm (hsel.perm.trans (List.Perm.cons _ hsel2.perm))
 have h2 : MemS S κ (hrow (fun _ => False) e r xs :: innS (fun j => j ≠ i.toNat) e2 r xs :: trow (α := β) e2 (Inner.rep (r.es i.toNat)) (Inner.get x) :: H2) w := h1.flip.unfold
 have h3 : MemS S κ (trow (α := β) e2 (Inner.rep (r.es i.toNat)) (Inner.get x) :: innS (fun j => j ≠ i.toNat) e2 r xs :: hrow (fun _ => False) e r xs :: H2) w :=
  h2.perm (((List.Perm.swap _ _ _).trans ((List.Perm.swap _ _ _).cons _)).trans (List.Perm.swap _ _ _))
 have a1 := (h3.all _ List.mem_cons_self).1
 have a2 := (h3.all _ (List.mem_cons_of_mem _ List.mem_cons_self)).1
 have hdd := (List.pairwise_cons.1 h3.disj).1 _ List.mem_cons_self
 have h4 : MemS S κ (innS (fun _ => True) e2 r xs :: hrow (fun _ => False) e r xs :: H2) w := by
  refine h3.glue ⟨fun j y hy _ => ?_, fun a b y z p q hne hy hz _ _ hpa hqa => ?_⟩ ?_
  ·by_cases hji : j = i.toNat
   ·subst hji
    rw [hx] at hy; cases hy
    exact a1
   ·exact a2.1 j y hy hji
  ·by_cases hai : a = i.toNat
   ·subst hai
    intro he
    rw [hx] at hy; cases hy
    exact hdd p.block ⟨p, hpa, rfl⟩ ⟨b, z, q, hz, Ne.symm hne, hqa, he⟩
   ·by_cases hbi : b = i.toNat
    ·subst hbi
     intro he
     exact hdd q.block ⟨q, hqa, rfl⟩ ⟨a, y, p, hy, hai, hpa, he.symm⟩
    ·exact a2.2 a b y z p q hne hy hz hai hbi hpa hqa
  ·rintro k ⟨j, y, p, hy, _, hpa, rfl⟩
   by_cases hji : j = i.toNat
   ·subst hji; exact .inl ⟨p, hpa, rfl⟩
   ·exact .inr ⟨j, y, p, hy, hji, hpa, rfl⟩
 exact ⟨S, MemS.fold (cs := [hrow (fun _ => False) e r xs, innS (fun _ => True) e2 r xs]) h4.flip⟩
theorem st_setS {x y : Operand} {t e e2 : Nat} {ty : TypeId} {pos : String} {aft : Array Edge} {gd : Option (Nat × Bool)} {r : SR (R α)} {xs : List α} {i : Int} {u : α} {o m : Nat} {v : Value} {vs : List Value} {H1 : List Chunk}
  (j : Nat) (u' : α) (q : R α) (hi : idx xs i = some u) (henc : enc q u' = setAll (enc (r.es i.toNat) u) j vs)
  (hsel : Sel H (rowsS (fun j => j ≠ i.toNat) e e2 r xs) H1) (k : C ρ (rowsS (fun j => j ≠ i.toNat) e e2 (r.put i.toNat q) (xs.set i.toNat u') :: H1))
  (hx : Gets ρ true x (.pointer (some ⟨sb r.a, o, none⟩)) := by exact gT) (hy : Gets ρ true y v := by exact gT)
  (hvs : v.cells = vs.toArray := by rfl) (hlen : vs.length = m := by rfl) (h10 : vs.all Value.oneCell' = true := by rfl)
  (ho' : o = so r.a + (i.toNat * GoRep.n α + j) := by first | rfl | (show _ = _ + (_ * (_ : Nat) + _); omega)) (hj0 : Nat.ble (j + m) (GoRep.n α) = true := by rfl)
  (ht : P.cellsOf t = m := by kernel_rfl) (hti : (P.info? t).isSome = true := by kernel_rfl) : StepO P n κ ⟨none, .store t x y, ty, pos, aft, gd⟩ ρ H C := by
 have hst := st_setH (P := P) (n := n) (κ := κ) (ρ := ρ) (H := hrow (fun _ => False) e r xs :: innS (fun j => j ≠ i.toNat) e2 r xs :: H1) (C := fun ρ' H' => ρ' = ρ ∧ H' = hrow (fun _ => False) e (r.put i.toNat q) (xs.set i.toNat u') :: innS (fun j => j ≠ i.toNat) e2 r xs :: H1)
  (ty := ty) (pos := pos) (aft := aft) (gd := gd) j u' q (fun _ => False) (fun _ h => h.elim) hi henc Upd.head ⟨rfl, rfl⟩ hx hy hvs hlen h10 ho' hj0 ht hti
 intro K Q hs w a hm ho
 obtain ⟨S0, hs0⟩ := hm
 refine hst K Q ?_ w a ⟨S0, hs0.openR hsel⟩ ho
 rintro ρ' H' ⟨rfl, rfl⟩ w' a' ⟨S, hw⟩ ho'
 refine hs _ _ k w' a' ⟨S, ?_⟩ ho'
 have h1 := hw.flip
 have hφ := (h1.all _ List.mem_cons_self).1
 have ne : ∀ (j : Nat) (y : α), j ≠ i.toNat → (xs.set i.toNat u')[j]? = some y → xs[j]? = some y := fun j y hj hy => by rwa [List.getElem?_set_ne (Ne.symm hj)] at hy
 have es : ∀ j, j ≠ i.toNat → (r.put i.toNat q).es j = r.es j := fun j hj => by simp [SR.put, hj]
 have h2 : MemS S κ (innS (fun j => j ≠ i.toNat) e2 (r.put i.toNat q) (xs.set i.toNat u') :: hrow (fun _ => False) e (r.put i.toNat q) (xs.set i.toNat u') :: H1) w' := by
  refine h1.swap1 ⟨fun j y hy hj => ?_, fun a b y z p q' hne hy hz ha hb hp hq => ?_⟩ ?_
  ·rw [es j hj]; exact hφ.1 j y (ne j y hj hy) hj
  ·rw [es a ha] at hp; rw [es b hb] at hq
   exact hφ.2 a b y z p q' hne (ne a y ha hy) (ne b z hb hz) ha hb hp hq
  ·rintro kk ⟨j, y, p, hy, hj, hp, rfl⟩
   rw [es j hj] at hp
   exact ⟨j, y, p, ne j y hj hy, hj, hp, rfl⟩
 exact MemS.fold (cs := [hrow (fun _ => False) e (r.put i.toNat q) (xs.set i.toNat u'), innS (fun j => j ≠ i.toNat) e2 (r.put i.toNat q) (xs.set i.toNat u')]) h2.flip
/-! ### Reading -/
theorem Cl.rowsS {on : Nat → Prop} {e e2 : TypeId} {r : SR (R α)} {xs : List α} (h : Has H (Dc.rowsS on e e2 r xs)) : Cl κ H r xs := fun w hm => by
 obtain ⟨S, hs⟩ := hm
 have h0 := (h.φ hs).1 _ List.mem_cons_self
 have hb := GoRep.bpos (α := α)
 refine ⟨?_, fun i x hx => ?_⟩
 ·calc xs.length = xs.length * 1 := by omega
   _ ≤ xs.length * GoRep.bytes α := Nat.mul_le_mul_left _ hb
   _ ≤ _ := h0.1
 ·rcases h0.2 with ⟨_, h2, _⟩ | ⟨g, o, cur, ha, hg, h3, h4, h5⟩
  ·subst h2; simp at hx
  ·refine ⟨by rw [ha]; rfl, fun j v hv => ?_⟩
   rw [ha]
   show w.cell? ⟨g, o + (i * GoRep.n α + j), none⟩ = some v
   simp [World.cell?, hg, (h5 i x hx).1 j v hv]
theorem Kn.rowsS {e e2 : TypeId} {r : SR (R α)} {xs : List α} (h : Has H (Dc.rowsS (fun _ => True) e e2 r xs)) : Kn κ H (α := List α) r xs := fun S w hm => by
 have h0 := h.φ hm
 have h1 := h0.1 _ List.mem_cons_self
 have h2 := h0.1 _ (List.mem_cons_of_mem _ List.mem_cons_self)
 refine ⟨(Dc.rowsS (fun _ => True) e e2 r xs).fp, fun k hk => ⟨_, h.mem, hk⟩, ?_⟩
 by_cases hne : xs = []
 ·subst hne
  exact ⟨Nat.zero_le _, by simp, fun i x hx => by simp at hx⟩
 ·obtain ⟨g, o, cur, ha, hg, g3, g4, g5⟩ := h1.2.resolve_left (fun h => hne h.2.1)
  refine ⟨g3, h1.1, fun i x hx => ⟨by rw [ha]; rfl, .inr ⟨_, List.mem_cons_self, _, ha, by rw [ha]; rfl⟩, fun j v hv => ?_, Inner.okI _ _ _ _ ?_⟩⟩
  ·rw [ha]
   show w.cell? ⟨g, o + (i * GoRep.n α + j), none⟩ = some v
   simp [World.cell?, hg, (g5 i x hx).1 j v hv]
  ·refine SlOk.mono (fun k hk => ?_) (trow_slOk (h2.1 i x hx trivial))
   rcases hk with hk | ⟨p, hp, rfl⟩
   ·exact .inl hk
   ·exact .inr ⟨_, List.mem_cons_of_mem _ List.mem_cons_self, i, x, p, hx, trivial, hp, rfl⟩
theorem Mem.freezeS {e e2 : TypeId} {r : SR (R α)} {xs : List α} {w : World} {H' : List Chunk} (hm : Mem κ H w) (hu : Upd H (Dc.rowsS (fun _ => True) e e2 r xs) (trow e r xs) H') : Mem κ H' w := by
 obtain ⟨S, hs⟩ := hm
 have h0 := hs.all _ hu.has.mem
 have h1 := h0.1.1 _ List.mem_cons_self
 have h2 := h0.1.1 _ (List.mem_cons_of_mem _ List.mem_cons_self)
 have hdd := disj_two h0.1.2
 have inFp : ∀ k, (innS (fun _ => True) e2 r xs).fp k → (Dc.rowsS (fun _ => True) e e2 r xs).fp k := fun k hk => ⟨_, List.mem_cons_of_mem _ List.mem_cons_self, hk⟩
 refine ⟨fun k => S k ∨ (innS (fun _ => True) e2 r xs).fp k, hs.upd hu (Frame.refl _ w) (fun _ h => .inl h) (fun k hk => ?_) (fun k hk => ?_) ⟨h1.1, ?_⟩ (fun k hk => ?_)⟩
 ·exact hk.elim .inl (fun h => .inr (.inl (inFp k h)))
 ·exact hk.elim (hs.lt k) (fun h => (h0.2 k (inFp k h)).1)
 ·rcases h1.2 with h3 | ⟨g, o, cur, ha, hg, g3, g4, g5⟩
  ·exact .inl h3
  ·refine .inr ⟨g, o, cur, ha, hg, g3, g4, fun i x hx => ⟨(g5 i x hx).1, Inner.okI _ _ _ _ ?_⟩⟩
   refine SlOk.mono (fun k hk => ?_) (trow_slOk (h2.1 i x hx trivial))
   rcases hk with hk | ⟨p, hp, rfl⟩
   ·exact .inl hk
   ·exact .inr ⟨i, x, p, hx, trivial, hp, rfl⟩
 ·have hk' : (Dc.rowsS (fun _ => True) e e2 r xs).fp k := ⟨_, List.mem_cons_self, hk⟩
  exact ⟨.inl hk', (h0.2 k hk').1, fun h => h.elim (h0.2 k hk').2.1 (fun h => hdd k hk h)⟩
theorem Mem.nilS {e e2 : TypeId} {es : Nat → R α} {w : World} {H' : List Chunk} (hm : Mem κ H w)
  (hu : Upd H (trow e (⟨none, 0, es⟩ : SR (R α)) ([] : List α)) (Dc.rowsS (fun _ => True) e e2 (⟨none, 0, es⟩ : SR (R α)) ([] : List α)) H') : Mem κ H' w := by
 obtain ⟨S, hs⟩ := hm
 have no : ∀ k, ¬ (Dc.rowsS (fun _ => True) e e2 (⟨none, 0, es⟩ : SR (R α)) ([] : List α)).fp k := by
  rintro k ⟨c, hc, hk⟩
  rcases List.mem_cons.1 hc with rfl | hc
  ·obtain ⟨p, hp, _⟩ := hk; cases hp
  ·obtain rfl := List.mem_singleton.1 hc
   obtain ⟨i, x, p, hx, _⟩ := hk; simp at hx
 refine ⟨S, hs.upd hu (Frame.refl _ w) (fun _ h => h) (fun _ h => .inl h) hs.lt ⟨fun c hc => ?_, ?_⟩ (fun k hk => (no k hk).elim)⟩
 ·rcases List.mem_cons.1 hc with rfl | hc
  ·exact ⟨by simp, .inl ⟨rfl, rfl, rfl⟩⟩
  ·obtain rfl := List.mem_singleton.1 hc
   exact ⟨fun i x hx => by simp at hx, fun i j x y p q _ hx => by simp at hx⟩
 ·rw [List.pairwise_cons]
  refine ⟨fun c hc k hk => ?_, by simp⟩
  obtain ⟨p, hp, _⟩ := hk; cases hp
/-! ### Append -/
structure Raw (α : Type) [GoRep α] where
 l : List Value
 hl : l.length = GoRep.n α
 h1 : ∀ v ∈ l, v.oneCell' = true
instance : GoRep (Raw α) where
 R := Unit
 n := GoRep.n α
 bytes := GoRep.bytes α
 enc := fun _ x => x.l
 ok := fun _ _ _ _ => True
 npos := GoRep.npos
 bpos := GoRep.bpos
 len := fun _ x => x.hl
 one := fun _ x => x.h1
 mono := fun _ _ _ _ _ _ h => h
 dep := fun _ _ _ _ _ _ h => h
def raw (r : R α) (x : α) : Raw α := ⟨enc r x, GoRep.len r x, GoRep.one r x⟩
def raws (es : Nat → R α) (xs : List α) : List (Raw α) := xs.mapIdx fun i x => raw (es i) x
theorem raws_get (es : Nat → R α) (xs : List α) (i : Nat) : (raws es xs)[i]? = (xs[i]?).map (raw (es i)) := by simp [raws]
theorem raws_len (es : Nat → R α) (xs : List α) : (raws es xs).length = xs.length := by simp [raws]
theorem raws_snoc (es es' : Nat → R α) (q : R α) (xs : List α) (x : α) (h : ∀ i, i < xs.length → es' i = es i) (hq : es' xs.length = q) : raws es' (xs ++ [x]) = raws es xs ++ [raw q x] := by
 apply List.ext_getElem?
 intro i
 rw [raws_get]
 by_cases hi : i < xs.length
 ·rw [List.getElem?_append_left hi, List.getElem?_append_left (by rw [raws_len]; exact hi), raws_get, h i hi]
 ·by_cases he : i = xs.length
  ·subst he
   rw [List.getElem?_append_right (Nat.le_refl _), List.getElem?_append_right (by rw [raws_len]; exact Nat.le_refl _), raws_len, hq]
   simp
  ·rw [List.getElem?_append_right (by omega), List.getElem?_append_right (by rw [raws_len]; omega), raws_len]
   rw [List.getElem?_eq_none (by simp; omega), List.getElem?_eq_none (by simp; omega)]
   rfl
theorem hrow_raw {e : TypeId} {r : SR (R α)} {xs : List α} {S : Soup} {w : World} : (hrow (fun _ => False) e r xs).φ S w ↔ (trow (α := Raw α) e (⟨r.a, r.cap, fun _ => ()⟩ : SR (R (Raw α))) (raws r.es xs)).φ S w := by
 constructor
 ·rintro ⟨h1, h2⟩
  refine ⟨by rw [raws_len]; exact h1, ?_⟩
  rcases h2 with ⟨a1, a2, a3⟩ | ⟨g, o, cur, ha, hg, g3, g4, g5⟩
  ·exact .inl ⟨a1, by subst a2; rfl, a3⟩
  ·refine .inr ⟨g, o, cur, ha, hg, by rw [raws_len]; exact g3, g4, fun i x hx => ⟨fun j v hv => ?_, trivial⟩⟩
   rw [raws_get] at hx
   cases hxi : xs[i]? with
   | none => rw [hxi] at hx; cases hx
   | some y =>
    rw [hxi] at hx
    obtain rfl := Option.some.inj hx
    exact (g5 i y hxi).1 j v hv
 ·rintro ⟨h1, h2⟩
  rw [raws_len] at h1
  refine ⟨h1, ?_⟩
  rcases h2 with ⟨a1, a2, a3⟩ | ⟨g, o, cur, ha, hg, g3, g4, g5⟩
  ·refine .inl ⟨a1, ?_, a3⟩
   have := congrArg List.length a2
   rw [raws_len] at this
   exact List.length_eq_zero_iff.1 this
  ·rw [raws_len] at g3
   refine .inr ⟨g, o, cur, ha, hg, g3, g4, fun i x hx => ⟨fun j v hv => ?_, fun h => h.elim⟩⟩
   exact (g5 i (raw (r.es i) x) (by rw [raws_get, hx]; rfl)).1 j v hv
theorem st_appS {x y : Operand} {t e e2 sz by_ d : Nat} {ty : TypeId} {pos : String} {aft : Array Edge} {gd : Option (Nat × Bool)} {r r2 : SR (R α)} {xs : List α} {u : α} {m m2 : Nat} {H1 : List Chunk} (q0 : R α)
  (hsel : Sel H (Dc.rowsS (fun _ => True) e e2 r xs) H1) (h2 : Has H1 (trow e r2 [u])) (hr2 : ∀ i, r2.es i = q0) (hu : Inner.get u = []) (hq : (Inner.rep q0).a = none ∧ (Inner.rep q0).cap = 0)
  (hb : (xs.length + 1) * by_ ≤ 140737488355328)
  (k : ∀ r' : SR (R α), C ((d, .v (.slice r'.a (xs ++ [u]).length r'.cap)) :: ρ) (Dc.rowsS (fun _ => True) e e2 r' (xs ++ [u]) :: H1))
  (hx : Gets ρ true x (.slice r.a m r.cap) := by exact gT) (hy : Gets ρ true y (.slice r2.a m2 r2.cap) := by exact gT)
  (hm1 : m = xs.length := by first | rfl | simp only [List.length_set, List.length_append, List.length_replicate]) (hm2 : m2 = 1 := by first | rfl | simp only [List.length_set, List.length_append, List.length_replicate])
  (hd : Nat.blt d n = true := by rfl) (hsz : GoRep.n α = sz := by rfl) (hby : GoRep.bytes α = by_ := by rfl) (hi : rowInfo P t e sz by_ = true := by kernel_rfl) :
  StepO P n κ ⟨some d, .call { callee := .builtin .append, args := #[x, y], argTypes := #[t, t] }, ty, pos, aft, gd⟩ ρ H C := by
 subst hm1 hm2
 intro K Q hs w act hm ho
 let r1 : SR (R (Raw α)) := ⟨r.a, r.cap, fun _ => ()⟩
 let r3 : SR (R (Raw α)) := ⟨r2.a, r2.cap, fun _ => ()⟩
 have hm' : Mem κ (trow (α := Raw α) e r1 (raws r.es xs) :: innS (fun _ => True) e2 r xs :: H1) w := by
  obtain ⟨S, hm⟩ := hm
  have h := hm.openR hsel
  exact ⟨S, h.swap1 (hrow_raw.1 (h.all _ List.mem_cons_self).1) (fun _ h => h)⟩
 have hk : Kn κ (trow (α := Raw α) e r1 (raws r.es xs) :: innS (fun _ => True) e2 r xs :: H1) (α := List (Raw α)) r3 [raw q0 u] := fun S w hms => by
  have hmem : trow e r2 [u] ∈ (trow (α := Raw α) e r1 (raws r.es xs) :: innS (fun _ => True) e2 r xs :: H1) := List.mem_cons_of_mem _ (List.mem_cons_of_mem _ h2.mem)
  have hφ := (hms.all _ hmem).1
  refine ⟨(trow e r2 [u]).fp, fun k hk => ⟨_, hmem, hk⟩, ?_⟩
  rcases hφ.2 with ⟨_, a2, _⟩ | ⟨g, o, cur, ha, hg, g3, g4, g5⟩
  ·cases a2
  ·refine ⟨g3, hφ.1, fun i x hx => ?_⟩
   have hi0 : i = 0 := by
    have := (List.getElem?_eq_some_iff.1 hx).1
    simp at this; exact this
   subst hi0
   obtain rfl : raw q0 u = x := by simpa using hx
   refine ⟨by show r2.a = _; rw [ha]; rfl, .inr ⟨_, ha, by show sb r2.a = _; rw [ha]; rfl⟩, fun j v hv => ?_, trivial⟩
   show w.cell? ⟨sb r2.a, so r2.a + (0 * GoRep.n α + j), none⟩ = _
   rw [ha]
   have := (g5 0 u rfl).1 j v (by rw [hr2 0]; exact hv)
   show w.cell? ⟨g, o + (0 * GoRep.n α + j), none⟩ = _
   simp only [World.cell?, hg]
   simpa using this
 have hst : StepO P n κ ⟨some d, .call { callee := .builtin .append, args := #[x, y], argTypes := #[t, t] }, ty, pos, aft, gd⟩ ρ (trow (α := Raw α) e r1 (raws r.es xs) :: innS (fun _ => True) e2 r xs :: H1)
   (fun ρ' H' => ∃ r' : SR (R (Raw α)), ρ' = (d, .v (.slice r'.a (raws r.es xs ++ [raw q0 u]).length r'.cap)) :: ρ ∧ H' = trow (α := Raw α) e r' (raws r.es xs ++ [raw q0 u]) :: innS (fun _ => True) e2 r xs :: H1) := by
  refine st_append (α := Raw α) (e := e) (sz := sz) (by_ := by_) (xs := raws r.es xs) (ys := [raw q0 u]) (m := xs.length) (m2 := 1) (r := r1) (r2 := r3)
   (H' := fun r' => trow (α := Raw α) e r' (raws r.es xs ++ [raw q0 u]) :: innS (fun _ => True) e2 r xs :: H1) ?_ hk ?_ ?_ ?_ hx hy ?_ ?_ hd hsz hby hi
  ·intro r'; exact Upd.head
  ·intro _ _ _ _ _ _; trivial
  ·rw [raws_len]; exact hb
  ·intro r'; exact ⟨r', rfl, rfl⟩
  ·rw [raws_len]
  ·rfl
 refine hst K Q ?_ w act hm' ho
 rintro ρ' H' ⟨r', rfl, rfl⟩ w' a' ⟨S, hw⟩ ho'
 let r4 : SR (R α) := ⟨r'.a, r'.cap, fun i => if i < xs.length then r.es i else q0⟩
 have e4 : ∀ i, i < xs.length → r4.es i = r.es i := fun i hi => if_pos hi
 have e5 : r4.es xs.length = q0 := if_neg (Nat.lt_irrefl _)
 have hl : (raws r.es xs ++ [raw q0 u]).length = (xs ++ [u]).length := by simp [raws_len]
 rw [hl] at ho'
 refine hs _ _ (k r4) w' a' ⟨S, ?_⟩ ho'
 rw [← raws_snoc r.es r4.es q0 xs u e4 e5] at hw
 have hw1 : MemS S κ (hrow (fun _ => False) e r4 (xs ++ [u]) :: innS (fun _ => True) e2 r xs :: H1) w' := hw.swap1 (hrow_raw.2 (hw.all _ List.mem_cons_self).1) (fun _ h => h)
 -- an element is one of the old ones, or the new one
 have el : ∀ (i : Nat) (x : α), (xs ++ [u])[i]? = some x → (i < xs.length ∧ xs[i]? = some x) ∨ (i = xs.length ∧ x = u) := fun i x hx => by
  by_cases hlt : i < xs.length
  ·exact .inl ⟨hlt, by rwa [List.getElem?_append_left hlt] at hx⟩
  ·right
   rw [List.getElem?_append_right (by omega)] at hx
   have hlt2 := (List.getElem?_eq_some_iff.1 hx).1
   simp at hlt2
   have : i = xs.length := by omega
   subst this
   simp at hx
   exact ⟨rfl, hx.symm⟩
 have nn : ∀ (i : Nat) (x : α) (p : Addr), (xs ++ [u])[i]? = some x → (Inner.rep (r4.es i)).a = some p → i < xs.length ∧ xs[i]? = some x ∧ (Inner.rep (r.es i)).a = some p := fun i x p hx hp => by
  rcases el i x hx with ⟨hlt, hxi⟩ | ⟨rfl, _⟩
  ·rw [e4 i hlt] at hp; exact ⟨hlt, hxi, hp⟩
  ·rw [e5, hq.1] at hp; cases hp
 have h1 := hw1.flip
 have hφ := (h1.all _ List.mem_cons_self).1
 have h3 : MemS S κ (innS (fun _ => True) e2 r4 (xs ++ [u]) :: hrow (fun _ => False) e r4 (xs ++ [u]) :: H1) w' := by
  refine h1.swap1 ⟨fun i x hx _ => ?_, fun i j x y p q hne hx hy _ _ hp hq' => ?_⟩ ?_
  ·rcases el i x hx with ⟨hlt, hxi⟩ | ⟨rfl, rfl⟩
   ·rw [e4 i hlt]; exact hφ.1 i x hxi trivial
   ·rw [e5, hu]; exact ⟨by simp, .inl ⟨hq.1, rfl, hq.2⟩⟩
  ·obtain ⟨_, hxi, hpi⟩ := nn i x p hx hp
   obtain ⟨_, hyj, hqj⟩ := nn j y q hy hq'
   exact hφ.2 i j x y p q hne hxi hyj trivial trivial hpi hqj
  ·rintro kk ⟨i, x, p, hx, _, hp, rfl⟩
   obtain ⟨_, hxi, hpi⟩ := nn i x p hx hp
   exact ⟨i, x, p, hxi, trivial, hpi, rfl⟩
 exact MemS.fold (cs := [hrow (fun _ => False) e r4 (xs ++ [u]), innS (fun _ => True) e2 r4 (xs ++ [u])]) h3.flip
end
end Go.Dc
namespace Go.Dc
open Go.RowKit GoRep
inductive Any where
 | s (x : Str)
 | i (x : Int)
 deriving DecidableEq, Inhabited
def Any.isS : Any → Bool
 | .s _ => true
 | .i _ => false
def Any.isI : Any → Bool
 | .s _ => false
 | .i _ => true
def Any.str : Any → Str
 | .s x => x
 | .i _ => ⟨[]⟩
def Any.int : Any → Int
 | .s _ => 0
 | .i x => x
def anyV (ts ti : Nat) : Any → Value
 | .s x => .iface ts (.string x.ba)
 | .i x => .iface ti (.int .i64 x)
section
variable {P : Program} {n : Nat} {κ : Ctx} {ρ : Env} {H : List Chunk} {g : Bool}
theorem run_zeroV {t : TypeId} {v : Value} (h : ((P.info? t).bind fun i => i.zero) = some v) (w : World) : (zeroValue t).run P w = .ok v w := by
 cases hi : P.info? t with
 | none => rw [hi] at h; cases h
 | some i =>
  rw [hi] at h
  have hz : i.zero = some v := h
  unfold zeroValue
  rw [run_bind_ok (run_info hi w)]
  simp only [hz]
  rfl
def i64T (P : Program) (t : TypeId) : Bool := match P.underlying t with | some (.int .i64) => true | _ => false
theorem ev_anyS {x : Operand} {ts ti : Nat} {s : Str} (hx : Gets ρ g x (.string s.ba) := by exact gT)
  (ht : strT P ts = true := by kernel_rfl) : Ev P n κ H ρ g (.makeInterface ts x) (anyV ts ti (.s s)) := by
 intro w a dst ty pos aft gd hm ho hg
 have e := hx.eval ho hg
 unfold strT at ht
 split at ht
 ·rename_i hu
  show (Instr.makeInterface ts (a.eval x) >>= fun v => pure (Next.value v)).run P w = _
  rw [e]
  refine run_value ?_
  unfold Instr.makeInterface
  show (underlying ts >>= _).run P w = _
  rw [run_bind_ok (run_under hu w)]
  rfl
 ·cases ht
theorem ev_anyI {x : Operand} {ts ti : Nat} {i : Int} (hx : Gets ρ g x (.int .i64 i) := by exact gT)
  (ht : i64T P ti = true := by kernel_rfl) : Ev P n κ H ρ g (.makeInterface ti x) (anyV ts ti (.i i)) := by
 intro w a dst ty pos aft gd hm ho hg
 have e := hx.eval ho hg
 unfold i64T at ht
 split at ht
 ·rename_i hu
  show (Instr.makeInterface ti (a.eval x) >>= fun v => pure (Next.value v)).run P w = _
  rw [e]
  refine run_value ?_
  unfold Instr.makeInterface
  show (underlying ti >>= _).run P w = _
  rw [run_bind_ok (run_under hu w)]
  rfl
 ·cases ht
theorem ev_isStr {x : Operand} {xt ts ti : Nat} {v : Any} (hx : Gets ρ g x (anyV ts ti v) := by exact gT)
  (ht : strT P ts = true := by kernel_rfl) (hne : Nat.beq ti ts = false := by rfl) (hz : ((P.info? ts).bind fun i => i.zero) = some (.string (Str.ba ⟨[]⟩)) := by kernel_rfl) :
  Ev P n κ H ρ g (.typeAssert x xt ts true) (.tuple #[.string v.str.ba, .bool v.isS]) := by
 intro w a dst ty pos aft gd hm ho hg
 have e := hx.eval ho hg
 unfold strT at ht
 split at ht
 ·rename_i hu
  show (Instr.typeAssert (a.eval x) xt ts true >>= fun v => pure (Next.value v)).run P w = _
  rw [e]
  refine run_value ?_
  unfold Instr.typeAssert
  show (underlying ts >>= _).run P w = _
  rw [run_bind_ok (run_under hu w)]
  cases v with
  | s y => simp [anyV, Any.str, Any.isS]
  | i y =>
   have h2 : ti ≠ ts := fun h => by subst h; simp at hne
   simp only [anyV, if_neg h2, Any.str, Any.isS]
   show (zeroValue ts >>= _).run P w = _
   rw [run_bind_ok (run_zeroV hz w)]
   rfl
 ·cases ht
theorem ev_isInt {x : Operand} {xt ts ti : Nat} {v : Any} (hx : Gets ρ g x (anyV ts ti v) := by exact gT)
  (ht : i64T P ti = true := by kernel_rfl) (hne : Nat.beq ts ti = false := by rfl) (hz : ((P.info? ti).bind fun i => i.zero) = some (.int .i64 0) := by kernel_rfl) :
  Ev P n κ H ρ g (.typeAssert x xt ti true) (.tuple #[.int .i64 v.int, .bool v.isI]) := by
 intro w a dst ty pos aft gd hm ho hg
 have e := hx.eval ho hg
 unfold i64T at ht
 split at ht
 ·rename_i hu
  show (Instr.typeAssert (a.eval x) xt ti true >>= fun v => pure (Next.value v)).run P w = _
  rw [e]
  refine run_value ?_
  unfold Instr.typeAssert
  show (underlying ti >>= _).run P w = _
  rw [run_bind_ok (run_under hu w)]
  cases v with
  | i y => simp [anyV, Any.int, Any.isI]
  | s y =>
   have h2 : ts ≠ ti := fun h => by subst h; simp at hne
   simp only [anyV, if_neg h2, Any.int, Any.isI]
   show (zeroValue ti >>= _).run P w = _
   rw [run_bind_ok (run_zeroV hz w)]
   rfl
 ·cases ht
/-! ### Regions of many orders, the last operation of which writes what the others read -/
variable {ops : Array Oper} {K : Act → World → Prop} {Hs : List Chunk} {z fuel : Nat} {listed : Array Bool}
end
end Go.Dc
namespace Go.Dc
open Go.RowKit GoRep
section
variable {P : Program} {n : Nat} {κ : Ctx} {ρ : Env} {H : List Chunk} {g : Bool} {C : Env → List Chunk → Prop}
theorem hA {H : List Chunk} {c : Chunk} (h : Has H c := by repeat (first | exact Has.head | apply Has.tail)) : Has H c := h
theorem uA {H H' : List Chunk} {c c' : Chunk} (h : Upd H c c' H' := by repeat (first | exact Upd.head | apply Upd.tail)) : Upd H c c' H' := h
theorem uR {α : Type} {H : List Chunk} {c : Chunk} {c' : α → Chunk} {H' : α → List Chunk} (h : ∀ r', Upd H c (c' r') (H' r') := by intro r'; repeat (first | exact Upd.head | apply Upd.tail)) : ∀ r', Upd H c (c' r') (H' r') := h
theorem sA {H H' cs : List Chunk} (h : SelL H cs H' := by repeat (first | exact SelL.nil | (apply SelL.cons; · (repeat (first | exact Sel.head | apply Sel.tail))))) : SelL H cs H' := h
theorem s1 {H H' : List Chunk} {c : Chunk} (h : Sel H c H' := by repeat (first | exact Sel.head | apply Sel.tail)) : Sel H c H' := h
theorem rI {H H' : List Chunk} (h : ∀ w, Mem κ H w → Mem κ H' w := by intro w hm; exact hm.reord) : ∀ w, Mem κ H w → Mem κ H' w := h
theorem kI {α : Type} [GoRep α] {S : Soup} {w : World} {r : R α} {x : α} (hs : MemS S κ H w) (h : Has H (imm r x) := by repeat (first | exact Has.head | apply Has.tail)) : ok S w r x := h.φ hs
theorem kM {α : Type} [GoRep α] {S : Soup} {w : World} {r : R α} {x : α} (hs : MemS S κ H w) (h : Has H (imm r x) := by repeat (first | exact Has.head | apply Has.tail)) : ok (lend S H) w r x := Kn.lend (Kn.imm h) hs
theorem kT {α : Type} [GoRep α] {e : TypeId} {S : Soup} {w : World} {r : SR (R α)} {x : List α} (hs : MemS S κ H w) (h : Has H (trow e r x) := by repeat (first | exact Has.head | apply Has.tail)) : ok (α := List α) (lend S H) w r x := Kn.lend (Kn.trow h) hs
theorem oF {α : Type} [GoRep α] {es : Nat → R α} {xs : List α} (h : ∀ S w r x, ok (α := α) S w r x := by exact fun _ _ _ _ => trivial) : OkL κ H es xs := OkL.flat h
theorem iS {α : Type} {xs : List α} {i : Int} {x : α} (h : idx xs i = some x) {g : Bool} : g = true → 0 ≤ i ∧ i < xs.length := fun _ => ⟨(idx_some h).1, (idx_some h).2.1⟩
theorem iT {α : Type} {b : Bool} {x y r : α} (h : b = true) (hM : (if b then x else y) = r) : x = r := (ite_t h).symm.trans hM
theorem iF {α : Type} {b : Bool} {x y r : α} (h : b = false) (hM : (if b then x else y) = r) : y = r := (ite_f h).symm.trans hM
theorem flA {β : Type} {cs' : β → List Chunk} (h : ∀ r c, c ∈ cs' r → FlatC c := by (intro r c hc; simp only [List.mem_cons, List.not_mem_nil, or_false] at hc; repeat (first | (rcases hc with rfl | hc; (first | exact flatC_own | exact flatC_trow (fun _ _ _ _ => trivial))) | (subst hc; (first | exact flatC_own | exact flatC_trow (fun _ _ _ _ => trivial)))))) : ∀ r c, c ∈ cs' r → FlatC c := h
section
variable {Q : Exit → Act → World → Prop} {ops : Array Oper} {rest : List Oper}
theorem sr {id : Nat} {l : List Oper} {y : Code} (h : OW P n κ l.toArray (Exit.then (y.wp P Q) Q) l ρ H) : CW P n κ (.seq (.region id l.toArray false) y) Q ρ H :=
 fun w a hm ho => wp_seq (cw_region h w a hm ho)
theorem on {y : Code} (h : CW P n κ y Q ρ H) : OW P n κ ops (Exit.then (y.wp P Q) Q) [] ρ H := ow_nil h
theorem oe {op : Op} {v : Value} {d : Nat} {ty : TypeId} {pos : String} {aft : Array Edge}
  (h : Ev P n κ H ρ true op v) (k : OW P n κ ops Q rest ((d, .v v) :: ρ) H) (hd : Nat.blt d n = true := by rfl) :
  OW P n κ ops Q (⟨some d, op, ty, pos, aft, none⟩ :: rest) ρ H := ow_ev h k hd
theorem om {x : Operand} {v : Value} {d : Nat} {ty : TypeId} {pos : String} {aft : Array Edge} (k : OW P n κ ops Q rest ((d, .v v) :: ρ) H)
  (hx : Gets ρ true x v := by exact gT) (hd : Nat.blt d n = true := by rfl) : OW P n κ ops Q (⟨some d, .move x, ty, pos, aft, none⟩ :: rest) ρ H := ow_ev (ev_move hx) k hd
theorem oa {x : Operand} {v : Value} {d : Nat} {ty : TypeId} {pos : String} {aft : Array Edge} (k : OW P n κ ops Q rest ((d, .v v) :: ρ) H)
  (hx : Gets ρ true x v := by exact gT) (hd : Nat.blt d n = true := by rfl) : OW P n κ ops Q (⟨some d, .assign x, ty, pos, aft, none⟩ :: rest) ρ H := ow_ev (ev_assign hx) k hd
theorem cc {α : Type} {c : Operand} {x y : Code} {t : Bool} {X Y r : α} (hc : evc ρ c = some (.v (.bool t))) (hM : (if t then X else Y) = r) (ht : t = true → X = r → CW P n κ x Q ρ H) (hf : t = false → Y = r → CW P n κ y Q ρ H) :
  CW P n κ (.cond c x y) Q ρ H := cw_cond hc (fun h => ht h (iT h hM)) (fun h => hf h (iF h hM))
theorem pI {T : TypeId} {b : Nat} {l : List Value} {ps : List (Nat × Value)} {H1 H2 Hs : List Chunk} (hu : Upd H (own b T l) (pown b ps) H1 := by repeat (first | exact Upd.head | apply Upd.tail))
  (hp : ∀ p ∈ ps, l[p.1]? = some p.2 := by intro p hp; simp only [List.mem_cons, List.not_mem_nil, or_false] at hp; repeat (first | (rcases hp with rfl | hp; rfl) | (rcases hp with rfl; rfl)))
  (hr : SelL H1 (pown b ps :: Hs) H2 := by repeat (first | exact SelL.nil | (apply SelL.cons; · (repeat (first | exact Sel.head | apply Sel.tail))))) : ∀ w, Mem κ H w → Mem κ (pown b ps :: Hs) w :=
 fun w hm => (hm.pown ps hu hp).reord hr
end
end
end Go.Dc

/- Several parts of the engine, one behind the other. -/
import Derived.Test.YtcalibhfgdncaaaGreatDoorDm
import Derived.RangeFuncIn
import Derived.RangeFuncRecord
import Derived.RangeFuncLeaves
import Derived.TacticsIn
import Derived.OrdersIn
import Derived.Lib.AppendStr
import Derived.Lib.UnsafeStr
import Derived.Lib.Builder
import Derived.Lib.OthersKept
import Derived.Laws.IdiomStrings
import Derived.Lib.LaidTab
import Derived.LaidSub
set_option linter.all false
namespace Go.Dc
open Go.RowKit ak
structure Hdr where
 a : Option Addr
 len : Nat
 cap : Nat
instance : ak Hdr where
 R := Unit
 n := 1
 bytes := 24
 enc := fun _ x => [.slice x.a x.len x.cap]
 ok := fun _ _ _ _ => True
 npos := by decide
 bpos := by decide
 len := fun _ _ => rfl
 one := fun r x v hv => by simp at hv; subst hv; rfl
 mono := fun _ _ _ _ _ _ h => h
 dep := fun _ _ _ _ _ _ h => h
section
variable {P : Program} {n : Nat} {κ : Ctx} {ρ : Env} {H : List Chunk} {g : Bool} {C : Env → List Chunk → Prop} {β : Type} [ak β]
end
end Go.Dc
namespace Go.Dc
open Go.RowKit ak
section
variable {P : Program} {n : Nat} {κ : Ctx} {ρ : Env} {H : List Chunk} {g : Bool}
theorem Kn.ahH {α : Type} [ak α] {r : SR (R α)} {xs ys : List α} {lo hi : Int} (h : Kn κ H (α := List α) r xs) (hq : sub xs lo hi = some ys) : Kn κ H (α := List α) (r.sub lo.toNat (ak.n α)) ys :=
 h.map fun _ _ hs => ng.sub hs hq
theorem Ok.same {v v' : Value} {a : Act} {t : Nat} (h : Ok n ρ a) (hl : look ρ t = some (.v v)) (he : v = v') : Ok n ((t, .v v') :: ρ) a := by
 subst he
 refine ⟨h.size, h.oU, fun u e he => ?_⟩
 simp only [look] at he
 by_cases hb : t = u
 ·subst hb
  simp at he
  subst he
  exact h.get _ _ hl
 ·have hb' : Nat.beq t u = false := xK hb
  rw [hb'] at he
  exact h.get u e he
theorem Ra {ops : Array Oper} {Q : Exit → Act → World → Prop} {rest : List Oper} {v v' : Value} (t : Nat) (hl : look ρ t = some (.v v)) (he : v = v') (k : OW P n κ ops Q rest ((t, .v v') :: ρ) H) : OW P n κ ops Q rest ρ H :=
 fun w a hm ho => k w a hm (ho.same hl he)
theorem LY {ops : Array Oper} {K : Act → World → Prop} {Hs : List Chunk} {fuel : Nat} {listed : Array Bool} {v v' : Value} (t : Nat) (hl : look ρ t = some (.v v)) (he : v = v') (k : AW P n κ ops K Hs fuel listed ((t, .v v') :: ρ) H) : AW P n κ ops K Hs fuel listed ρ H :=
 fun w a hm hs ho => k w a hm hs (ho.same hl he)
end
end Go.Dc
namespace Go.Dc
open Go.RowKit ak
theorem Str.OQ {s t : Str} : s.ba = t.ba ↔ s = t := ⟨Str.OT, fun h => by rw [h]⟩
def wE {α : Type} (xs : List α) (lo : Nat) (ys : List α) : List α := xs.take lo ++ ys ++ xs.drop (lo + ys.length)
def wF {α : Type} (xs : List α) (lo dl : Nat) (ys : List α) : Option (List α) := if lo + dl ≤ xs.length then some (wE xs lo (ys.take dl)) else none
theorem aa4 {α : Type} (xs : List α) (lo : Nat) : wE xs lo [] = xs := by simp [wE]
theorem Vh {α : Type} {xs ys : List α} {lo : Nat} (h : lo + ys.length ≤ xs.length) : (wE xs lo ys).length = xs.length := by
 simp only [wE, List.length_append, List.length_take, List.length_drop]; omega
theorem Bl {α : Type} {xs ys zs : List α} {lo dl : Nat} (h : wF xs lo dl ys = some zs) : zs.length = xs.length := by
 unfold wF at h
 split at h
 ·cases h; exact Vh (by simp only [List.length_take]; omega)
 ·cases h
theorem aa3 {α : Type} {xs ys : List α} {lo : Nat} (h : lo + ys.length ≤ xs.length) (q : Nat) : (wE xs lo ys)[q]? = if q < lo then xs[q]? else if q < lo + ys.length then ys[q - lo]? else xs[q]? := by
 have h1 : (xs.take lo).length = lo := by rw [List.length_take]; omega
 unfold wE
 rw [List.append_assoc]
 by_cases a : q < lo
 ·rw [if_pos a, List.getElem?_append_left (by omega), List.getElem?_take, if_pos a]
 ·rw [if_neg a, List.getElem?_append_right (by omega), h1]
  by_cases b : q < lo + ys.length
  ·rw [if_pos b, List.getElem?_append_left (by omega)]
  ·rw [if_neg b, List.getElem?_append_right (by omega), List.getElem?_drop, show lo + ys.length + (q - lo - ys.length) = q by omega]
section
variable {P : Program}
theorem aha {w : World} (t ty e : TypeId) (i : TypeInfo) (ht : P.underlying t = some (.slice e)) (hi : P.info? e = some i)
  (gb o dl cd : Nat) (cur : Array Value) (hg : w.heap[gb]? = some (.cells cur e (0, 0))) (src : Option Addr) (mm c : Nat) (news : List Value) (hl : news.length = Nat.min mm dl * i.size)
  (hnews : ∀ j v, news[j]? = some v → src = some ⟨sb src, so src, none⟩ ∧ w.cell? ⟨sb src, so src + j, none⟩ = some v) (h1 : ∀ u ∈ news, u.oneCell' = true) (hfit : o + news.length ≤ cur.size) :
  (Builtin.copy_ #[t, t] ty #[.slice (some ⟨gb, o, none⟩) dl cd, .slice src mm c]).run P w =
   .ok (.int .i64 (Nat.min mm dl : Nat)) (w.setRow gb (cur.toList.take o ++ news ++ cur.toList.drop (o + news.length)).toArray) := by
 have hf := CG (P := P) (w := w) (size := i.size) (m := Nat.min mm dl) (src := src) (len := mm) (cap := c) hl hnews
 have hst := run_storeCells_at P gb o e news 0 cur w hg (by simpa using hfit) h1
 simp only [Nat.add_zero] at hst
 simp [Builtin.copy_, run_underlying ht, sizeOf, typeInfo, hi, Builtin.lenOf, hf, hst, goInt]
theorem ahb {w : World} (t ty e : TypeId) (i : TypeInfo) (ht : P.underlying t = some (.slice e)) (hi : P.info? e = some i) (ba : Option Addr) (dl cd : Nat) (src : Option Addr) (mm c : Nat) (h0 : Nat.min mm dl = 0) :
  (Builtin.copy_ #[t, t] ty #[.slice ba dl cd, .slice src mm c]).run P w = .ok (.int .i64 (0 : Nat)) w := by
 have hf := CG (P := P) (w := w) (size := i.size) (m := 0) (src := src) (len := mm) (cap := c) (cs := []) (by simp) (fun j v hv => by simp at hv)
 cases ba with
 | none => simp [Builtin.copy_, run_underlying ht, sizeOf, typeInfo, hi, Builtin.lenOf, h0, hf, goInt]
 | some a => simp [Builtin.copy_, run_underlying ht, sizeOf, typeInfo, hi, Builtin.lenOf, h0, hf, goInt, storeCells]
end
section
variable {P : Program} {n : Nat} {κ : Ctx} {ρ : Env} {H : List Chunk} {g : Bool} {C : Env → List Chunk → Prop}
theorem Kn.U7 {α : Type} [ak α] {r : SR (R α)} {xs : List α} {w : World} (hk : Kn κ H (α := List α) r xs) (hm : Mem κ H w) : xs.length ≤ r.cap := by
 obtain ⟨S, hs⟩ := hm
 obtain ⟨L, _, h2⟩ := hk S w hs
 exact h2.1
theorem Vt {α : Type} [ak α] {x : Operand} {lo hi : Option Operand} {t m : Nat} {r : SR (R α)} {xs ys : List α} {ol oh : Option (IntKind × Int)}
  (hcap : xs.length ≤ r.cap) (hq : g = true → sub xs (oval ol 0) (oval oh xs.length) = some ys)
  (hx : Gets ρ g x (.slice r.a m r.cap) := by exact gT)
  (hm1 : m = xs.length := by first | rfl | simp only [List.length_set, List.length_append, List.length_replicate])
  (hlo : vZ ρ g lo ol := by first | exact .none | exact .some (.plain rfl) | exact .some (.cond rfl id) | exact .some (.cond rfl gl))
  (hhi : vZ ρ g hi oh := by first | exact .none | exact .some (.plain rfl) | exact .some (.cond rfl id) | exact .some (.cond rfl gl))
  (hsz : elemSize P t = some (ak.n α) := by kernel_rfl) :
  Ev P n κ H ρ g (.slice t x lo hi none) (.slice (r.sub (oval ol 0).toNat (ak.n α)).a ys.length (r.sub (oval ol 0).toNat (ak.n α)).cap) := by
 subst hm1
 intro w a dst ty pos aJ gd hm ho hg
 show (Instr.sliceAt t (a.eval x) (lo.map a.eval) (hi.map a.eval) none >>= fun v => pure (Next.value v)).run P w = _
 rw [hx.eval ho hg, hlo.eval ho hg, hhi.eval ho hg]
 exact fT (Zx (hq hg) hcap hsz)
def From {ρ : Type} (r : SR ρ) (lo sz : Nat) (ba : Option Addr) : Prop := ∀ gb o, r.a = some ⟨gb, o, none⟩ → r.cap ≠ lo → ba = some ⟨gb, o + lo * sz, none⟩
theorem From.all {ρ : Type} {r : SR ρ} {sz : Nat} : From r 0 sz r.a := fun gb o h _ => by rw [h]; simp
theorem From.sub {ρ : Type} {r : SR ρ} {lo sz : Nat} : From r lo sz (r.sub lo sz).a := fun gb o h hne => by
 show (if r.cap = lo then r.a else r.a.map (·.add (lo * sz))) = _
 rw [if_neg hne, h]
 simp [Addr.add_lit]
theorem aa8 {α : Type} [ak α] {es : Nat → R α} {ys : List α} {k j : Nat} {v : Value} (h : (fU es (ys.take k) 0)[j]? = some v) : (fU es ys 0)[j]? = some v := by
 obtain ⟨i, j', x, rfl, hj, hx, hv⟩ := Mi es h
 have hx' : ys[i]? = some x := by
  rw [List.getElem?_take] at hx
  split at hx
  ·exact hx
  ·cases hx
 rw [Bn es ys 0 i j' x hx' hj, Nat.zero_add]
 exact hv
theorem ZT {α : Type} [ak α] {x y : Operand} {t e sz jd d : Nat} {ty : TypeId} {pos : String} {aJ : Array Edge} {gd : Option (Nat × Bool)} {r r2 : SR (R α)} {xs ys zs : List α} {lo dl cd m2 : Nat} {ba : Option Addr} {H' : List Chunk}
  (hu : eD H (aO e r xs) (aO e r zs) H') (hk : Kn κ H (α := List α) r2 ys) (hq : wF xs lo dl ys = some zs) (hba : From r lo sz ba)
  (hfl : ∀ (S : bD) (w : World) (q : R α) (u : α), ok S w q u) (hen : ∀ (p q : R α) (u : α), enc p u = enc q u)
  (k : C ((d, .v (.int .i64 (Nat.min ys.length dl : Nat))) :: ρ) H')
  (hx : Gets ρ true x (.slice ba dl cd) := by exact gT) (hy : Gets ρ true y (.slice r2.a m2 r2.cap) := by exact gT)
  (hm2 : m2 = ys.length := by first | rfl | simp only [List.length_set, List.length_append, List.length_replicate])
  (hd : Nat.blt d n = true := by rfl) (hsz : ak.n α = sz := by rfl) (hby : ak.bytes α = jd := by rfl) (hi : tT P t e sz jd = true := by kernel_rfl) :
  gD P n κ ⟨some d, .call { callee := .builtin .copy, args := #[x, y], argTypes := #[t, t] }, ty, pos, aJ, gd⟩ ρ H C := by
 subst hm2
 intro K Q hs w act hm ho
 obtain ⟨hut, i, z, hi', hisz, DI, hz, hzs, hpos⟩ := CB hi
 obtain ⟨cs, hcs⟩ := Bo act.eval .copy x y #[t, t] (some d) ty pos aJ gd
 have hnews := U8 hk hm
 obtain ⟨S, hms⟩ := hm
 have hφ := hu.has.φ hms
 have hin := (hms.all _ hu.has.mem).2
 unfold wF at hq
 split at hq
 case isFalse => cases hq
 rename_i hld
 have QM : zs = wE xs lo (ys.take dl) := by cases hq; rfl
 have hzl : zs.length = xs.length := by rw [QM]; exact Vh (by simp only [List.length_take]; omega)
 by_cases h0 : Nat.min ys.length dl = 0
 ·have hnil : ys.take dl = [] := List.length_eq_zero_iff.1 (by rw [List.length_take]; exact (Nat.min_comm _ _).trans h0)
  have hzx : zs = xs := by rw [QM, hnil, aa4]
  subst hzx
  unfold Oper.wp
  rw [hcs, hx.eval ho rfl, hy.eval ho rfl]
  have hr := fT (P := P) (ahb (P := P) (w := w) t ty e i hut hi' ba dl cd r2.a ys.length r2.cap h0)
  rw [show (0 : Nat) = Nat.min ys.length dl from h0.symm] at hr
  rw [show builtin .copy #[t, t] ty cs #[.slice ba dl cd, .slice r2.a ys.length r2.cap] = (Builtin.copy_ #[t, t] ty #[.slice ba dl cd, .slice r2.a ys.length r2.cap] >>= fun v => pure (Next.value v)) from rfl, hr]
  exact hs _ _ k w _ ⟨S, hms.upd hu (Frame.refl _ w) (fun _ h => h) (fun _ h => .inl h) hms.lt hφ (fun kk hk => ⟨.inl hk, (hin kk hk).1, (hin kk hk).2.1⟩)⟩ (ho.put (by simpa [Nat.blt_eq] using hd) rfl)
 ·rcases hφ.2 with ⟨ha, Jm, hc0⟩ | ⟨gb, o, cur, ha, hgb, h3, h4, h5⟩
  ·subst Jm
   have : dl = 0 := by simp at hld; omega
   subst this
   exact absurd (Nat.min_zero _) h0
  ·have hne : r.cap ≠ lo := by
    have : 0 < dl := by
     have := Nat.min_le_right ys.length dl
     have h1 : Nat.min ys.length dl ≤ dl := this
     omega
    omega
   have hb := hba gb o ha hne
   subst hb
   have hyl : (ys.take dl).length = Nat.min ys.length dl := by rw [List.length_take]; exact Nat.min_comm _ _
   have hnl : (fU r2.es (ys.take dl) 0).length = Nat.min ys.length dl * i.size := by rw [uU, hisz, hsz, hyl]
   have ac3 : lo + (ys.take dl).length ≤ xs.length := by simp only [List.length_take]; omega
   have hfit : o + lo * sz + (fU r2.es (ys.take dl) 0).length ≤ cur.size := by
    rw [uU, hsz, Nat.add_assoc, ← Nat.add_mul]
    rw [hsz] at h4
    exact Nat.le_trans (Nat.add_le_add_left (Nat.mul_le_mul_right _ (by omega)) _) h4
   have hrun := fT (P := P) (aha (P := P) (w := w) t ty e i hut hi' gb (o + lo * sz) dl cd cur hgb r2.a ys.length r2.cap (fU r2.es (ys.take dl) 0) hnl (fun j v hv => hnews j v (aa8 hv)) (Pj _ _ _) hfit)
   unfold Oper.wp
   rw [hcs, hx.eval ho rfl, hy.eval ho rfl]
   rw [show builtin .copy #[t, t] ty cs #[.slice (some ⟨gb, o + lo * sz, none⟩) dl cd, .slice r2.a ys.length r2.cap] = (Builtin.copy_ #[t, t] ty #[.slice (some ⟨gb, o + lo * sz, none⟩) dl cd, .slice r2.a ys.length r2.cap] >>= fun v => pure (Next.value v)) from rfl, hrun]
   generalize hN : fU r2.es (ys.take dl) 0 = N at *
   have hfr : Frame (aO e r xs).fp w (w.setRow gb (cur.toList.take (o + lo * sz) ++ N ++ cur.toList.drop (o + lo * sz + N.length)).toArray) := by
    refine ⟨rfl, rfl, rfl, by simp [World.setRow], fun k _ hn => ?_⟩
    have hne : gb ≠ k := fun h => hn ⟨_, ha, h.symm⟩
    simp [World.setRow, Array.getElem?_modify, hne]
   refine hs _ _ k _ _ ⟨S, hms.upd hu hfr (fun _ h => h) (fun _ h => .inl h) (fun k hk => Nat.lt_of_lt_of_le (hms.lt k hk) hfr.size) ⟨by rw [hzl]; exact hφ.1, .inr ⟨gb, o, _, ha, setRow_heap w gb cur _ e (0, 0) hgb, by rw [hzl]; exact h3, ?_, ?_⟩⟩ ?_⟩ (ho.put (by simpa [Nat.blt_eq] using hd) rfl)
   ·have hc : (cur.toList.take (o + lo * sz) ++ N ++ cur.toList.drop (o + lo * sz + N.length)).toArray.size = cur.size := by
     simp only [List.size_toArray, List.length_append, List.length_take, List.length_drop, Array.length_toList]
     omega
    rw [hc]; exact h4
   ·intro q u zQ
    refine ⟨fun j v hv => ?_, hfl _ _ _ _⟩
    have hj : j < ak.n α := by have := (List.getElem?_eq_some_iff.1 hv).1; rwa [ak.len] at this
    simp only [List.getElem?_toArray]
    have hpre : (cur.toList.take (o + lo * sz)).length = o + lo * sz := by
     have hcl : cur.toList.length = cur.size := Array.length_toList
     rw [List.length_take, hcl]; omega
    have VP : N.length = (ys.take dl).length * ak.n α := by rw [← hN, uU]
    rw [QM, aa3 ac3] at zQ
    have mul_lt : ∀ a b : Nat, a < b → a * ak.n α + j < b * ak.n α := fun a b hab => by
     have : a * ak.n α + ak.n α ≤ b * ak.n α := by rw [← Nat.succ_mul]; exact Nat.mul_le_mul_right _ hab
     omega
    rw [← hsz] at hpre ⊢
    by_cases a1 : q < lo
    ·rw [if_pos a1] at zQ
     have := mul_lt q lo a1
     rw [List.append_assoc, List.getElem?_append_left (by rw [hpre]; omega), List.getElem?_take, if_pos (by omega)]
     have := (h5 q u zQ).1 j v hv
     simpa using this
    ·rw [if_neg a1] at zQ
     have hle : lo * ak.n α ≤ q * ak.n α := Nat.mul_le_mul_right _ (by omega)
     by_cases a2 : q < lo + (ys.take dl).length
     ·rw [if_pos a2] at zQ
      have e1 : o + (q * ak.n α + j) = (o + lo * ak.n α) + ((q - lo) * ak.n α + j) := by rw [Nat.sub_mul]; omega
      have hlt2 : (q - lo) * ak.n α + j < N.length := by rw [VP]; exact mul_lt _ _ (by omega)
      rw [e1, List.append_assoc, List.getElem?_append_right (by rw [hpre]; omega), hpre, Nat.add_sub_cancel_left, List.getElem?_append_left hlt2, ← hN, Bn r2.es _ 0 _ j u zQ hj, Nat.zero_add, hen _ (r.es q)]
      exact hv
     ·rw [if_neg a2] at zQ
      have hle2 : (lo + (ys.take dl).length) * ak.n α ≤ q * ak.n α := Nat.mul_le_mul_right _ (by omega)
      rw [Nat.add_mul, ← VP] at hle2
      rw [List.append_assoc, List.getElem?_append_right (by rw [hpre]; omega), hpre, List.getElem?_append_right (by omega), List.getElem?_drop]
      rw [show o + lo * ak.n α + N.length + (o + (q * ak.n α + j) - (o + lo * ak.n α) - N.length) = o + (q * ak.n α + j) by omega]
      have := (h5 q u zQ).1 j v hv
      simpa using this
   ·rintro kk ⟨p, hp, rfl⟩
    have h := hin p.block ⟨p, hp, rfl⟩
    refine ⟨.inl ⟨p, hp, rfl⟩, ?_, h.2.1⟩
    have := h.1
    simpa [World.setRow] using this
theorem NU {f d : Nat} {x : Operand} {xs : List Operand} {vs cap : List Value} {v : Value} {ts : Array TypeId} {ty : TypeId} {pos : String} {aJ : Array Edge} {gd : Option (Nat × Bool)}
  (hc : ∀ w, Mem κ H w → Calls P f (vs ++ cap).toArray w (bW w v)) (k : C ((d, .v v) :: ρ) H)
  (hx : Gets ρ true x (.func (.func f) #[] cap.toArray) := by exact gT)
  (ha : iB ρ true xs vs := by repeat (first | exact iB.nil | (apply iB.cons; first | exact .plain rfl | exact .cond rfl id | exact .cond rfl gl)))
  (hd : Nat.blt d n = true := by rfl) (hf : callable P f = true := by kernel_rfl) :
  gD P n κ ⟨some d, .call { callee := .value x, args := xs.toArray, argTypes := ts }, ty, pos, aJ, gd⟩ ρ H C := by
 intro K Q hs w a hm ho
 unfold Oper.wp
 rw [ahc (hx.eval ho rfl) (ha.eval ho rfl) hf]
 refine (hc w hm).mono ?_
 rintro e w' ⟨rfl, hb⟩
 exact hs _ _ k w' _ (hm.MJ hb) (ho.put (by simpa [Nat.blt_eq] using hd) rfl)
end
end Go.Dc
namespace Go.Dc
open Go.RowKit ak
structure aan (α : Type) where
 l : List α
 deriving DecidableEq, Inhabited
instance {α : Type} [ak α] : ak (aan α) where
 R := SR (R α)
 n := 1
 bytes := 8
 enc := fun r _ => [.map (some (sb r.a))]
 ok := fun _ _ _ _ => True
 npos := Nat.one_pos
 bpos := by omega
 len := fun _ _ => rfl
 one := fun _ _ v hv => by simp at hv; subst hv; rfl
 mono := fun _ _ _ _ _ _ h => h
 dep := fun _ _ _ _ _ _ h => h
theorem abj {α : Type} {xs : List α} {p : α → Bool} : (xs.find? p = none ∧ xs.findIdx? p = none ∧ xs.any p = false ∧ ∀ x ∈ xs, p x = false) ∨
  ∃ i x, xs.find? p = some x ∧ xs.findIdx? p = some i ∧ xs[i]? = some x ∧ xs.any p = true ∧ p x = true ∧ ∀ j y, j < i → xs[j]? = some y → p y = false := by
 induction xs with
 | nil => exact .inl ⟨rfl, rfl, rfl, by simp⟩
 | cons a l ih =>
  cases ha : p a with
  | true => exact .inr ⟨0, a, by simp [ha], by simp [List.findIdx?_cons, ha], rfl, by simp [ha], ha, fun j y hj => by omega⟩
  | false =>
   rcases ih with ⟨h1, h2, h3, h4⟩ | ⟨i, x, h1, h2, h3, h4, h5, h6⟩
   ·refine .inl ⟨by simp [ha, h1], by simp [List.findIdx?_cons, ha, h2], by simp [ha, h3], fun x hx => ?_⟩
    rcases List.mem_cons.1 hx with rfl | hx
    ·exact ha
    ·exact h4 x hx
   ·refine .inr ⟨i + 1, x, by simp [ha, h1], by simp [List.findIdx?_cons, ha, h2], by simpa using h3, by simp [ha, h4], h5, fun j y hj hy => ?_⟩
    cases j with
    | zero => simp at hy; subst hy; exact ha
    | succ j => exact h6 j y (by omega) (by simpa using hy)
class zh (α : Type) (β : outParam Type) [ak α] [ak β] where
 ks : List PK
 Xa : α → List Value
 val : α → List β
 rep : R α → SR (R β)
 fits : ∀ x, fit ks (Xa x) = true
 okv : ∀ S w r x, ok S w r x → ng S w (rep r) (val x)
section
variable {α β : Type} [ak α] [ak β] [zh α β]
def afr (r : SR (R α)) (xs : List α) : Chunk where
 fp := fun k => k = sb r.a
 φ := fun S w => ∃ es clock, w.heap[sb r.a]? = some (.map es clock) ∧ es.toList.length = xs.length ∧
  ∀ i x, xs[i]? = some x → (∃ e, es.toList[i]? = some e ∧ e.key = .agg (zh.Xa x).toArray ∧ e.val = .slice (zh.rep (r.es i)).a (zh.val x).length (zh.rep (r.es i)).cap) ∧ ok S w (r.es i) x
 dep := fun S w w' h hw => by
  obtain ⟨es, clock, h1, h2, h3⟩ := hw
  exact ⟨es, clock, by rw [h _ (.inl rfl)]; exact h1, h2, fun i x hx => ⟨(h3 i x hx).1, ak.dep S w w' _ _ (fun k hk => h k (.inr hk)) (h3 i x hx).2⟩⟩
 mono := fun S S' w h hw => by
  obtain ⟨es, clock, h1, h2, h3⟩ := hw
  exact ⟨es, clock, h1, h2, fun i x hx => ⟨(h3 i x hx).1, ak.mono S S' w _ _ h (h3 i x hx).2⟩⟩
def Q5 (xs : List α) (p : α → Bool) : List β := match xs.find? p with | some x => zh.val x | none => []
def Q0 (z : Nat → R β) (r : SR (R α)) (xs : List α) (p : α → Bool) : SR (R β) := match xs.findIdx? p with | some i => zh.rep (r.es i) | none => ⟨none, 0, z⟩
def MR.add (r : SR (R α)) (i : Nat) (q : R α) : SR (R α) := ⟨r.a, r.cap, fun j => if j = i then q else r.es j⟩
theorem afI {S : bD} {w : World} {z : Nat → R β} : ng S w (⟨none, 0, z⟩ : SR (R β)) [] := ⟨Nat.le_refl _, by simp, fun i x hx => by simp at hx⟩
variable {P : Program} {n : Nat} {κ : Ctx} {ρ : Env} {H : List Chunk} {g : Bool} {C : Env → List Chunk → Prop}
theorem Sk.found {r : SR (R α)} {xs : List α} (h : Has H (afr r xs)) (z : Nat → R β) (p : α → Bool) : Sk κ H (α := List β) (Q0 z r xs p) (Q5 xs p) := by
 intro S w hs
 obtain ⟨es, clock, _, _, h3⟩ := h.φ hs
 show ng S w _ _
 rcases abj (xs := xs) (p := p) with ⟨h1, h2, _⟩ | ⟨i, x, h1, h2, hx, _⟩
 ·simp only [Q5, Q0, h1, h2]; exact afI
 ·simp only [Q5, Q0, h1, h2]
  exact zh.okv S w _ _ (h3 i x hx).2
end
/-! ### Some cells of a block that is written meanwhile -/
section
variable {P : Program} {n : Nat} {κ : Ctx} {ρ : Env} {H : List Chunk} {g : Bool}
end
end Go.Dc
namespace Go.Dc
open Go.RowKit
inductive Wd : Fence → Prop
 | plain : Wd Fence.wide
 | round (l : Nat) : Wd (Fence.wide.inRound l)
theorem Wd.fn {F : Fence} (h : Wd F) (f : FuncId) : F.fn f := by cases h <;> trivial
theorem Wd.depth {F : Fence} (h : Wd F) : F.depth.isSome = true → False := by cases h <;> (intro h; cases h)
theorem Wd.calls {F : Fence} {n : Nat} {P : Program} {f : FuncId} {args : Array Value} {w : World} {R : Ending → World → Prop} (h : Wd F) (hc : Calls P f args w R) : CallsIn F n P f args w R := by
 cases h with
 | plain => exact callsIn_wide.2 hc
 | round l =>
  have h1 : CallsIn Fence.wide n P f args w R := callsIn_wide.2 hc
  exact h1
theorem Wd.rows {F : Fence} {n : Nat} {P : Program} {row : String} {args : Array Value} {w : World} {R : Value → World → Prop} (h : Wd F) (hc : Rows P row args w R) : RowsIn F n P row args w R := by
 cases h with
 | plain => exact fun c cs _ => let ⟨v, w', r, s⟩ := hc c cs; ⟨v, w', r, stepsIn_wide.2 s⟩
 | round l => exact fun c cs _ => let ⟨v, w', r, s⟩ := hc c cs; ⟨v, w', r, stepsIn_wide.2 s⟩
def Q9 : Op → Bool
 | .defer _ => false
 | _ => true
theorem afH {o : Op} (h : Q9 o = true) : ∀ c, o ≠ .defer c := fun c e => by subst e; cases h
theorem ahU {F : Fence} {N : Nat} {P : Program} {o : Oper} {a : Act} {w : World} {K : Act → World → Prop} {Q : Exit → Act → World → Prop} (hF : Wd F) (hnd : Q9 o.op = true) (h : o.wp P a w K Q) : o.wpIn F N P a w K Q := by
 refine ⟨fun f _ => hF.fn f, ?_⟩
 rw [Oper.semAt_eq _ _ _ (afH hnd)]
 unfold Oper.wp at h
 generalize (execOp a.eval o).run P w = r at h
 cases r with
 | ok x w' =>
  cases x with
  | value v => exact h
  | skip => exact h
  | defer d => exact h
  | enter f args => exact ⟨fun hd => (hF.depth hd).elim, hF.calls h⟩
  | row row args => exact ⟨fun hd => (hF.depth hd).elim, hF.rows h⟩
  | round l f t a b => exact h.elim
  | _ => exact h
 | halt x w' => cases x <;> exact h
section
variable {F : Fence} {P : Program} {n : Nat} {κ : Ctx} {ops : Array Oper} {Q : Exit → Act → World → Prop} {rest : List Oper} {ρ : Env} {H : List Chunk}
/-! In whatever order, under a fence: every order is walked. -/
def AWi (F : Fence) (P : Program) (n : Nat) (κ : Ctx) (ops : Array Oper) (Q : Exit → Act → World → Prop) (fuel : Nat) (listed : Array Bool) (ρ : Env) (H : List Chunk) : Prop :=
 ∀ w a, Mem κ H w → Ok n ρ a → wpAnyIn F 0 P .any ops Q fuel listed a w
def Uu (F : Fence) (P : Program) (n : Nat) (κ : Ctx) (ops : Array Oper) (Q : Exit → Act → World → Prop) (fuel : Nat) (listed : Array Bool) (ρ : Env) (H : List Chunk) (i : Nat) : Prop :=
 ∃ o, ops[i]? = some o ∧ o.guard = none ∧ Q9 o.op = true ∧ gD P n κ o ρ H (AWi F P n κ ops Q fuel (listed.setIfInBounds i true))
theorem Uu.wpOp {fuel : Nat} {listed : Array Bool} {i : Nat} (hF : Wd F) (h : Uu F P n κ ops Q fuel listed ρ H i) {w : World} {a : Act} (hm : Mem κ H w) (ho : Ok n ρ a) :
  wpOpIn F 0 P ops Q i (wpAnyIn F 0 P .any ops Q fuel (listed.setIfInBounds i true)) a w := by
 obtain ⟨o, hi, hg, hnd, hs⟩ := h
 unfold wpOpIn
 simp only [hi, Region.wanted, hg, if_true]
 exact ahU hF hnd (hs _ _ (fun _ _ hc w a m o => hc w a m o) w a hm ho)
end
/-! ### The loop's record -/
def afp (L D : Nat) (n : Nat) (ρ : Env) (ps : Array Tmp) (assign body : Code) (st : LoopState) (pend : Option Code) : Chunk where
 fp := fun k => k = L ∨ k = D
 φ := fun _ w => L ≠ D ∧ (∃ a fn, Ok n ρ a ∧ w.heap[L]? = some (.loop { state := st, pending := pend, fn := fn, tmps := a.tmps, params := ps, assign := assign, body := body, defers := D })) ∧ w.heap[D]? = some (.deferred (some []))
 dep := fun S w w' h hw => by
  obtain ⟨h0, ⟨a, fn, h1, h2⟩, h3⟩ := hw
  exact ⟨h0, ⟨a, fn, h1, by rw [h L (.inl (.inl rfl))]; exact h2⟩, by rw [h D (.inl (.inr rfl))]; exact h3⟩
 mono := fun _ _ _ _ h => h
def QW (D : Nat) : Chunk where
 fp := fun k => k = D
 φ := fun _ w => w.heap[D]? = some (.deferred (some []))
 dep := fun S w w' h hw => by rw [h D (.inl rfl)]; exact hw
 mono := fun _ _ _ _ h => h
section
variable {P : Program} {n : Nat} {κ : Ctx} {ρ : Env} {H : List Chunk} {L D nL : Nat} {ρL : Env} {ps : Array Tmp} {assign body : Code}
/-! ### The statement -/
theorem Mem.QW {st : LoopState} {pe : Option Code} {w : World} (hm : Mem κ (afp L D nL ρL ps assign body st pe :: H) w) : Mem κ (Dc.QW D :: H) w := by
 obtain ⟨S, hs⟩ := hm
 have hall := hs.all _ List.mem_cons_self
 refine ⟨S, hs.upd (S' := S) .head (Frame.refl _ _) (fun _ h => h) (fun _ h => .inl h) hs.lt hall.1.2.2 (fun k hk => ?_)⟩
 have hk : k = D := hk
 subst hk
 exact ⟨.inl (.inr rfl), (hall.2 _ (.inr rfl)).1, (hall.2 _ (.inr rfl)).2.1⟩
def mark (D : Nat) : List Deferred := [{ target := .collected D, args := #[] }]
/-! ### Behind the statement: the mark lies among the deferred calls -/
variable {ops : Array Oper} {Q : Exit → Act → World → Prop} {l : List Oper} {ds : List Deferred}
theorem Mem.undef {w : World} (hm : Mem κ (Dc.QW D :: H) w) : Mem κ H (w.putObj D (.deferred none)) := by
 obtain ⟨S, hs⟩ := hm
 let e : Chunk := ⟨fun _ => False, fun _ _ => True, fun _ _ _ _ _ => trivial, fun _ _ _ _ _ => trivial⟩
 have := hs.upd (c' := e) (S' := S) (w' := w.putObj D (.deferred none)) .head ⟨rfl, rfl, rfl, by simp [World.putObj], fun k _ hne => World.putObj_heap_other (fun e => hne e)⟩ (fun _ h => h) (fun _ h => .inl h) (fun k hk => by simpa [World.putObj] using hs.lt k hk) trivial (fun k hk => hk.elim)
 exact ⟨S, this.sub' (List.sublist_cons_self _ _)⟩
end
end Go.Dc
namespace Go.Dc
section
variable {P : Program} {n : Nat} {κ : Ctx} {ρ : Env} {H : List Chunk} {g : Bool}
end
end Go.Dc
namespace Go.Dc
open Go.RowKit ak
def u8 (c : Int) : UInt8 := UInt8.ofNat c.toNat
def u8b (c : Int) : Bool := decide (0 ≤ c ∧ c ≤ 255)
theorem ahN {c : Int} (h : u8b c = true) : ((u8 c).toNat : Int) = c := by
 simp only [u8b, decide_eq_true_eq] at h
 have : (UInt8.ofNat c.toNat).toNat = c.toNat := by
  rw [UInt8.toNat_ofNat']
  omega
 show (((UInt8.ofNat c.toNat).toNat : Nat) : Int) = c
 rw [this]; omega
def lV (u : Bool) (b : Nat) : Value := .pointer (match u with | true => some ⟨b, 0, none⟩ | false => none)
section
variable {P : Program}
theorem ag7 {w : World} (t u ty e : TypeId) (i : TypeInfo) (z : Value) (ht : P.underlying t = some (.slice e)) (hu : P.underlying u = some .string) (hi : P.info? e = some i) (hz : i.zero = some z)
  (base : Option Addr) (m cap : Nat) (s : ByteArray) (olds : List Value) (hlo : olds.length = m * i.size)
  (holds : ∀ j v, olds[j]? = some v → base = some ⟨sb base, so base, none⟩ ∧ w.cell? ⟨sb base, so base + j, none⟩ = some v)
  (hg : cap < m + s.size) (h63 : m + s.size ≤ 9223372036854775807) (hb : (m + s.size) * i.bytes ≤ 140737488355328) :
  ∃ cap' rest, m + s.size ≤ cap' ∧ rest = Builtin.zeroCells z.cells (cap' - (m + s.size)) ∧ (Builtin.append_ #[t, u] ty #[.slice base m cap, .string s]).run P w =
   .ok (.slice (some ⟨w.heap.size, 0, none⟩) (m + s.size) cap') (w.drew.alloc (.cells (olds.toArray ++ (Lib.strCells s).toArray ++ rest) e)) := by
 have hn : ¬ (m + s.size ≤ cap) := by omega
 have h63' : ¬ (9223372036854775807 < ((m : Int) + (s.size : Int))) := by omega
 have hfit : Builtin.nextslicecap (m + s.size) cap * i.bytes ≤ 281474976710656 := growslice_fits (by omega) hb
 have h48' : ¬ (281474976710656 < Builtin.nextslicecap (m + s.size) cap * i.bytes) := by omega
 have hf := Lib.run_firstCells_string (P := P) w.drew i.size s
 have hfo := CG (P := P) (w := w.drew) (size := i.size) (m := m) (src := base) (len := m) (cap := cap) hlo (by simpa using holds)
 refine ⟨grownCap w (m + s.size) cap e, _, ?_, rfl, ?_⟩
 ·unfold grownCap Question.cut
  exact Nat.le_add_right _ _
 ·simp [Builtin.append_, run_underlying ht, run_underlying hu, sizeOf, typeInfo, zeroValue, hi, hz, Builtin.lenOf, hn, h63', h48', Question.forced, hf, hfo, newRow, grownCap]
  congr 2
  apply Array.ext'
  simp [List.append_assoc]
theorem ag5 {w : World} (t u ty e : TypeId) (i : TypeInfo) (ht : P.underlying t = some (.slice e)) (hu : P.underlying u = some .string) (hi : P.info? e = some i) (hs1 : i.size = 1)
  (gb o m cap : Nat) (cur : Array Value) (hg : w.heap[gb]? = some (.cells cur e (0, 0))) (s : ByteArray)
  (hroom : m + s.size ≤ cap) (hfit : o + m + s.size ≤ cur.size) :
  (Builtin.append_ #[t, u] ty #[.slice (some ⟨gb, o, none⟩) m cap, .string s]).run P w =
   .ok (.slice (some ⟨gb, o, none⟩) (m + s.size) cap) (w.setRow gb (cur.toList.take (o + m) ++ Lib.strCells s ++ cur.toList.drop (o + m + s.size)).toArray) := by
 have hf := Lib.run_firstCells_string (P := P) w 1 s
 have hst := run_storeCells_at P gb (o + m) e (Lib.strCells s) 0 cur w hg (by simpa [Lib.strCells_length] using hfit) (Lib.strCells_oneCell s)
 simp only [Nat.add_zero, Lib.strCells_length] at hst
 simp [Builtin.append_, run_underlying ht, run_underlying hu, sizeOf, typeInfo, hi, hs1, Builtin.lenOf, hroom, hf, Addr.add_lit, hst]
theorem ag9 {w : World} (t u ty e : TypeId) (i : TypeInfo) (ht : P.underlying t = some (.slice e)) (hu : P.underlying u = some .string) (hi : P.info? e = some i) :
  (Builtin.append_ #[t, u] ty #[.slice none 0 0, .string ⟨#[]⟩]).run P w = .ok (.slice none 0 0) w := by
 have hf := Lib.run_firstCells_string (P := P) w i.size ⟨#[]⟩
 have h0 : (⟨#[]⟩ : ByteArray).size = 0 := rfl
 rw [h0] at hf
 simp [Builtin.append_, run_underlying ht, run_underlying hu, sizeOf, typeInfo, hi, Builtin.lenOf, h0, hf]
theorem NZ (s : Str) : Lib.strCells s.ba = Lib.byteCells s.l := by
 rw [Lib.strCells_eq]
 simp [Str.ba]
end
def CQ (P : Program) (t : TypeId) : Bool := match P.underlying t with | some .string => true | _ => false
theorem ahE {P : Program} {t : TypeId} (h : CQ P t = true) : P.underlying t = some .string := by
 unfold CQ at h
 split at h
 ·assumption
 ·cases h
section
variable {P : Program} {n : Nat} {κ : Ctx} {ρ : Env} {H : List Chunk} {C : Env → List Chunk → Prop} {g : Bool}
theorem ahv {x y : Operand} {t u e d : Nat} {ty : TypeId} {pos : String} {aJ : Array Edge} {gd : Option (Nat × Bool)} {r : SR Unit} {xs : List UInt8} {s : Str} {m : Nat} {H' : SR Unit → List Chunk}
  (hu : ∀ r', eD H (aO (α := UInt8) e r xs) (aO (α := UInt8) e r' (xs ++ s.l)) (H' r'))
  (hb : xs.length + s.l.length ≤ 140737488355328)
  (k : ∀ r' : SR Unit, C ((d, .v (.slice r'.a (xs ++ s.l).length r'.cap)) :: ρ) (H' r'))
  (hx : Gets ρ true x (.slice r.a m r.cap) := by exact gT) (hy : Gets ρ true y (.string s.ba) := by exact gT)
  (hm1 : m = xs.length := by first | rfl | simp only [List.length_set, List.length_append, List.length_replicate])
  (hd : Nat.blt d n = true := by rfl) (hi : tT P t e 1 1 = true := by kernel_rfl) (hst : CQ P u = true := by kernel_rfl) :
  gD P n κ ⟨some d, .call { callee := .builtin .append, args := #[x, y], argTypes := #[t, u] }, ty, pos, aJ, gd⟩ ρ H C := by
 subst hm1
 intro K Q hs w act hm ho
 obtain ⟨hut, i, z, hi', hisz, DI, hz, hzs, hpos⟩ := CB hi
 have QC := ahE hst
 obtain ⟨cs, hcs⟩ := Bo act.eval .append x y #[t, u] (some d) ty pos aJ gd
 obtain ⟨S, hms⟩ := hm
 have hφ := (hu r).has.φ hms
 have hin := (hms.all _ (hu r).has.mem).2
 have BG : s.ba.size = s.l.length := Str.xI s
 have hlen : (xs ++ s.l).length = xs.length + s.l.length := List.length_append
 let es' : Nat → Unit := fun _ => ()
 have fin : ∀ (a' : Option Addr) (cap' : Nat) (w' : World), (builtin .append #[t, u] ty cs #[.slice r.a xs.length r.cap, .string s.ba]).run P w = .ok (.value (.slice a' (xs.length + s.l.length) cap')) w' →
   Frame (aO (α := UInt8) e r xs).fp w w' → (aO (α := UInt8) e (⟨a', cap', es'⟩ : SR Unit) (xs ++ s.l)).φ S w' → (∀ p, a' = some p → (((aO (α := UInt8) e r xs).fp p.block ∨ w.heap.size ≤ p.block) ∧ p.block < w'.heap.size)) →
   Oper.wp P ⟨some d, .call { callee := .builtin .append, args := #[x, y], argTypes := #[t, u] }, ty, pos, aJ, gd⟩ act w K Q := by
  intro a' cap' w' hrun hfr hφ' hfp
  unfold Oper.wp
  rw [hcs, hx.eval ho rfl, hy.eval ho rfl, hrun]
  have hv : (.slice a' (xs.length + s.l.length) cap' : Value) = .slice (⟨a', cap', es'⟩ : SR Unit).a (xs ++ s.l).length (⟨a', cap', es'⟩ : SR Unit).cap := by rw [hlen]
  refine hs _ _ (k ⟨a', cap', es'⟩) w' _ ⟨S, hms.upd (hu _) hfr (fun _ h => h) (fun _ h => .inl h) (fun k hk => Nat.lt_of_lt_of_le (hms.lt k hk) hfr.size) hφ' ?_⟩ (ho.put (by simpa [Nat.blt_eq] using hd) (congrArg some hv))
  rintro kk ⟨p, hp, rfl⟩
  obtain ⟨h1, h2⟩ := hfp p hp
  refine ⟨h1, h2, fun hsk => ?_⟩
  rcases h1 with h1 | h1
  ·exact (hin _ h1).2.1 hsk
  ·have := hms.lt _ hsk; omega
 have U5 : ∀ (l : List UInt8) (q : Nat) (x : UInt8), l[q]? = some x → (Lib.byteCells l)[q]? = some (.int .u8 (x.toNat : Int)) := fun l q x hq => by
  simp [Lib.byteCells, hq]
 have Vn : ∀ (x : UInt8) (q j : Nat) (v : Value) (es : Nat → Unit), (enc (α := UInt8) (es q) x)[j]? = some v → j = 0 ∧ v = .int .u8 (x.toNat : Int) := fun x q j v es h => by
  cases j with
  | zero => exact ⟨rfl, (Option.some.inj h).symm⟩
  | succ j =>
   have : ([Value.int .u8 (x.toNat : Int)] : List Value)[j + 1]? = some v := h
   simp at this
 have Iy : ∀ (olds : List Value), olds = Lib.byteCells xs → (∀ j v, olds[j]? = some v → r.a = some ⟨sb r.a, so r.a, none⟩ ∧ w.cell? ⟨sb r.a, so r.a + j, none⟩ = some v) →
   r.cap < xs.length + s.l.length → Oper.wp P ⟨some d, .call { callee := .builtin .append, args := #[x, y], argTypes := #[t, u] }, ty, pos, aJ, gd⟩ act w K Q := by
  intro olds hol holds hgrow
  obtain ⟨cap', rest, hcap, hrest, hrun⟩ := ag7 (P := P) t u ty e i z hut QC hi' hz r.a xs.length r.cap s.ba olds (by rw [hol, Lib.byteCells_length, hisz, Nat.mul_one]) holds (by rw [BG]; exact hgrow) (by rw [BG]; omega) (by rw [DI, BG]; omega)
  rw [BG] at hcap hrest hrun
  have hw' : ∀ k, k < w.heap.size → (w.drew.alloc (.cells (olds.toArray ++ (Lib.strCells s.ba).toArray ++ rest) e)).heap[k]? = w.heap[k]? := fun k hk => Below.heap_alloc w.drew _ k hk
  have hzc : z.cells.size = 1 := hzs
  refine fin (some ⟨w.heap.size, 0, none⟩) cap' _ (fT hrun) ⟨rfl, rfl, rfl, by simp, fun k hk _ => hw' k hk⟩ ⟨by rw [hlen]; show _ * 1 ≤ _; omega, .inr ⟨w.heap.size, 0, olds.toArray ++ (Lib.strCells s.ba).toArray ++ rest, rfl, ?_, by rw [hlen]; exact hcap, ?_, ?_⟩⟩ ?_
  ·show (w.heap.push _)[w.heap.size]? = _
   simp
  ·simp only [Array.size_append, List.size_toArray, hrest, aak, hol, NZ, Lib.byteCells_length, hzc]
   show 0 + cap' * 1 ≤ _
   omega
  ·intro q v hq
   refine ⟨fun j v' hv => ?_, trivial⟩
   obtain ⟨rfl, rfl⟩ := Vn _ _ _ _ _ hv
   have hL : (olds.toArray ++ (Lib.strCells s.ba).toArray ++ rest)[0 + (q * 1 + 0)]? = (Lib.byteCells (xs ++ s.l) ++ rest.toList)[q]? := by
    rw [Lib.byteCells_append, hol, NZ, Nat.zero_add, Nat.mul_one, Nat.add_zero, ← Array.getElem?_toList]
    simp
   refine hL.trans ?_
   have QB := (List.getElem?_eq_some_iff.1 hq).1
   rw [List.getElem?_append_left (by rw [Lib.byteCells_length]; exact QB)]
   exact U5 _ _ _ hq
  ·intro p hp
   cases hp
   exact ⟨.inr (Nat.le_refl _), by show w.heap.size < (w.heap.push _).size; simp⟩
 rcases hφ.2 with ⟨ha, Jm, hc0⟩ | ⟨gb, o, cur, ha, hgb, h3, h4, h5⟩
 ·subst Jm
  by_cases hy0 : s.l.length = 0
  ·have hy1 : s.l = [] := List.length_eq_zero_iff.1 hy0
   refine fin none 0 w ?_ (Frame.refl _ w) ⟨by simp [hy1], .inl ⟨rfl, by simp [hy1], rfl⟩⟩ (fun p hp => by cases hp)
   rw [ha, hc0, hy0]
   have hba : s.ba = ⟨#[]⟩ := by unfold Str.ba; rw [hy1]
   rw [hba]
   exact fT (ag9 (P := P) t u ty e i hut QC hi')
  ·exact Iy [] rfl (fun j v hv => by simp at hv) (by rw [hc0]; simp; omega)
 ·have h4' : o + r.cap ≤ cur.size := by have : o + r.cap * 1 ≤ cur.size := h4; omega
  have holds : ∀ j v, (Lib.byteCells xs)[j]? = some v → r.a = some ⟨sb r.a, so r.a, none⟩ ∧ w.cell? ⟨sb r.a, so r.a + j, none⟩ = some v := fun q v hv => by
   rw [ha]
   refine ⟨rfl, ?_⟩
   obtain ⟨x', hx', rfl⟩ : ∃ x', xs[q]? = some x' ∧ v = .int .u8 (x'.toNat : Int) := by
    simp only [Lib.byteCells, List.getElem?_map, Option.map_eq_some_iff] at hv
    obtain ⟨x', h1, h2⟩ := hv
    exact ⟨x', h1, h2.symm⟩
   show w.cell? ⟨gb, o + q, none⟩ = some _
   have := (h5 q x' hx').1 0 _ rfl
   have e1 : o + (q * ak.n UInt8 + 0) = o + q := by show o + (q * 1 + 0) = _; omega
   rw [e1] at this
   simp [World.cell?, hgb, this]
  by_cases hroom : xs.length + s.l.length ≤ r.cap
  ·have hrun := ag5 (P := P) (w := w) t u ty e i hut QC hi' hisz gb o xs.length r.cap cur hgb s.ba (by rw [BG]; exact hroom) (by rw [BG]; omega)
   rw [BG] at hrun
   refine fin r.a r.cap (w.setRow gb (cur.toList.take (o + xs.length) ++ Lib.strCells s.ba ++ cur.toList.drop (o + xs.length + s.l.length)).toArray) ?_ ?_ ?_ ?_
   ·have := fT (P := P) hrun
    rw [ha]
    exact this
   ·refine ⟨rfl, rfl, rfl, by simp [World.setRow], fun k _ hn => ?_⟩
    have hne : gb ≠ k := fun h => hn ⟨_, ha, h.symm⟩
    simp [World.setRow, Array.getElem?_modify, hne]
   ·refine ⟨by rw [hlen]; show _ * 1 ≤ _; omega, .inr ⟨gb, o, _, ha, setRow_heap w gb cur _ e (0, 0) hgb, by rw [hlen]; exact hroom, ?_, ?_⟩⟩
    ·have hc : (cur.toList.take (o + xs.length) ++ Lib.strCells s.ba ++ cur.toList.drop (o + xs.length + s.l.length)).toArray.size = cur.size := by
      simp only [List.size_toArray, List.length_append, List.length_take, List.length_drop, Array.length_toList, NZ, Lib.byteCells_length]
      omega
     rw [hc]; exact h4
    ·intro q v hq
     refine ⟨fun j v' hv => ?_, trivial⟩
     obtain ⟨rfl, rfl⟩ := Vn _ _ _ _ _ hv
     have QB := (List.getElem?_eq_some_iff.1 hq).1
     rw [hlen] at QB
     have hpre : (cur.toList.take (o + xs.length)).length = o + xs.length := by
      have hcl : cur.toList.length = cur.size := Array.length_toList
      rw [List.length_take, hcl]; omega
     show (cur.toList.take (o + xs.length) ++ Lib.strCells s.ba ++ cur.toList.drop (o + xs.length + s.l.length)).toArray[o + (q * 1 + 0)]? = _
     rw [show o + (q * 1 + 0) = o + q by omega]
     simp only [List.getElem?_toArray]
     by_cases hlt : q < xs.length
     ·have hq' : xs[q]? = some v := by rwa [List.getElem?_append_left hlt] at hq
      rw [List.append_assoc, List.getElem?_append_left (by rw [hpre]; omega), List.getElem?_take, if_pos (by omega)]
      have := (h5 q v hq').1 0 _ rfl
      have e1 : o + (q * ak.n UInt8 + 0) = o + q := by show o + (q * 1 + 0) = _; omega
      rw [e1] at this
      simpa using this
     ·have hq' : s.l[q - xs.length]? = some v := by rwa [List.getElem?_append_right (by omega)] at hq
      rw [List.append_assoc, List.getElem?_append_right (by rw [hpre]; omega), hpre, NZ, List.getElem?_append_left (by rw [Lib.byteCells_length]; omega), show o + q - (o + xs.length) = q - xs.length by omega]
      exact U5 _ _ _ hq'
   ·intro p hp
    refine ⟨.inl ⟨p, hp, rfl⟩, ?_⟩
    have := (hin p.block ⟨p, hp, rfl⟩).1
    simpa [World.setRow] using this
  ·exact Iy _ rfl holds (by omega)
theorem ahy {x : Operand} {t d e : Nat} {ty : TypeId} {pos : String} {aJ : Array Edge} {gd : Option (Nat × Bool)} {r : SR Unit} {xs : List UInt8} {m : Nat}
  (hh : Has H (aO (α := UInt8) e r xs))
  (k : ∀ q : Option Addr, (r.a = none ∨ r.cap ≠ 0 → q = r.a) → C ((d, .v (.pointer q)) :: ρ) H)
  (hx : Gets ρ true x (.slice r.a m r.cap) := by exact gT)
  (hd : Nat.blt d n = true := by rfl) (hp : (match P.underlying ty with | some (.pointer _) => true | _ => false) = true := by kernel_rfl) :
  gD P n κ ⟨some d, .call { callee := .builtin .unsafeSliceData, args := #[x], argTypes := #[t] }, ty, pos, aJ, gd⟩ ρ H C := by
 intro K Q hs w act hm ho
 have hd' : d < n := by simpa [Nat.blt_eq] using hd
 obtain ⟨cs, hcs⟩ := Dy act.eval .unsafeSliceData x #[t] (some d) ty pos aJ gd
 obtain ⟨pe, hpe⟩ : ∃ pe, P.underlying ty = some (.pointer pe) := by
  split at hp
  ·exact ⟨_, by assumption⟩
  ·cases hp
 unfold Oper.wp
 rw [hcs, hx.eval ho rfl]
 obtain ⟨S, hms⟩ := hm
 have hφ := hh.φ hms
 have easy : (r.a = none ∨ r.cap ≠ 0) → (Builtin.unsafeSliceData_ #[t] ty #[.slice r.a m r.cap]).run P w = .ok (.pointer r.a) w := fun h => by
  rcases h with h | h
  ·rw [h]; rfl
  ·cases hra : r.a with
   | none => rfl
   | some a => exact Lib.run_unsafeSliceData_row w #[t] ty a m r.cap h
 by_cases hc : r.a = none ∨ r.cap ≠ 0
 ·rw [show (builtin .unsafeSliceData #[t] ty cs #[.slice r.a m r.cap]).run P w = _ from fT (easy hc)]
  exact hs _ _ (k r.a (fun _ => rfl)) w _ ⟨S, hms⟩ (ho.put hd' rfl)
 ·have hc0 : r.cap = 0 := Classical.not_not.1 fun h => hc (.inr h)
  rcases hφ.2 with ⟨ha, _, _⟩ | ⟨gb, o, cur, ha, hgb, h3, h4, h5⟩
  ·exact absurd (Or.inl ha) hc
  ·have hsh : w.shape? gb = some (e, cur.size) := by simp [World.shape?, hgb]
   have hrun := Lib.run_unsafeSliceData_zero (P := P) w #[t] ty pe hpe ⟨gb, o, none⟩ m (e, cur.size) hsh
   rw [ha, hc0]
   rw [show (builtin .unsafeSliceData #[t] ty cs #[.slice (some ⟨gb, o, none⟩) m 0]).run P w = _ from fT hrun]
   refine hs _ _ (k _ (fun h => absurd h hc)) _ _ ⟨S, hms.keep ⟨rfl, rfl, rfl, by simp, fun k hk _ => Below.heap_alloc w _ k hk⟩⟩ (ho.put hd' rfl)
theorem afe {e : TypeId} (hc : P.cellsOf e = 1) (count o n : Nat) (hn : o + n ≤ count) : liesAt P P.depth e count o e n = true := by
 have hd : P.depth = (2 * (P.types.size + Made.depth) + 1) + 1 := rfl
 rw [hd]
 simp only [liesAt, Bool.or_eq_true]
 left
 rw [hd]
 simp [rowAt, hc, hn, sameLayout, Nat.mod_one]
theorem ahe {w : World} (pt it ty e : TypeId) (hp : P.underlying pt = some (.pointer e)) (hc : P.cellsOf e = 1) (g o cells : Nat) (hsh : w.shape? g = some (e, cells)) (l : List UInt8) (h0 : l ≠ []) (hn : o + l.length ≤ cells) (h63 : l.length ≤ 9223372036854775807)
  (hcell : ∀ j x, l[j]? = some x → w.cell? ⟨g, o + j, none⟩ = some (.int .u8 x.toNat)) :
  (Builtin.unsafeString_ #[pt, it] ty #[.pointer (some ⟨g, o, none⟩), .int .i64 l.length]).run P w = .ok (.string ⟨l.toArray⟩) (w.freeze ⟨g, o, none⟩ l.length) := by
 have hl : l.length ≠ 0 := by simpa using h0
 have hlb := Lib.run_loadBytes (P := P) w l ⟨g, o, none⟩ .empty (fun j x hx => by rw [Addr.add_lit]; exact hcell j x hx)
 have hlies := afe (P := P) hc (cells / P.cellsOf e) o l.length (by rw [hc]; simpa using hn)
 have h63' : ¬ (9223372036854775807 : Int) < (l.length : Int) := by omega
 obtain ⟨A,B,D,hdef⟩ : ∃ (A B : Sem Unit) (D : Sem Value), Builtin.unsafeString_ #[pt, it] ty #[.pointer (some ⟨g, o, none⟩), .int .i64 l.length] =
   (do
    let n ← asInt (.int .i64 l.length)
    if n < 0 then A
    if n > IntKind.i64.max then B
    if n = 0 then pure (.string .empty)
    else if ← variablesAt ⟨g, o, none⟩ (← elemOf pt) n.toNat then do
     let s ← loadBytes ⟨g, o, none⟩ .empty n.toNat
     freeze ⟨g, o, none⟩ n.toNat
     pure (.string s)
    else D) := ⟨_,_,_,rfl⟩
 rw [hdef]
 have hmax : IntKind.i64.max = 9223372036854775807 := rfl
 have hneg : ¬ (l.length : Int) < 0 := by omega
 simp [asInt, asIntOf, hmax, h63', hneg, hl, variablesAt, hsh, elemOf, run_underlying hp, hlies, hlb]
theorem ahz {x y : Operand} {t u d e : Nat} {ty : TypeId} {pos : String} {aJ : Array Edge} {gd : Option (Nat × Bool)} {r : SR Unit} {l : List UInt8} {q : Option Addr} {H' : List Chunk}
  (hsel : jC H (aO (α := UInt8) e r l) H') (hq : r.a = none ∨ r.cap ≠ 0 → q = r.a)
  (k : C ((d, .v (.string (⟨l⟩ : Str).ba)) :: ρ) H')
  (hx : Gets ρ true x (.pointer q) := by exact gT)
  (hy : Gets ρ true y (.int .i64 (l.length : Int)) := by exact gT)
  (hd : Nat.blt d n = true := by rfl) (hp : P.underlying t = some (.pointer e) := by kernel_rfl) (hc : P.cellsOf e = 1 := by kernel_rfl) :
  gD P n κ ⟨some d, .call { callee := .builtin .unsafeString, args := #[x, y], argTypes := #[t, u] }, ty, pos, aJ, gd⟩ ρ H C := by
 intro K Q hs w act hm ho
 have hd' : d < n := by simpa [Nat.blt_eq] using hd
 obtain ⟨cs, hcs⟩ := Bo act.eval .unsafeString x y #[t, u] (some d) ty pos aJ gd
 unfold Oper.wp
 rw [hcs, hx.eval ho rfl, hy.eval ho rfl]
 have hm0 := hm
 obtain ⟨S, hms⟩ := hm
 have hmem : aO (α := UInt8) e r l ∈ H := hsel.perm.mem_iff.2 List.mem_cons_self
 have hφ := (hms.all _ hmem).1
 by_cases hl : l = []
 ·subst hl
  rw [show (builtin .unsafeString #[t, u] ty cs #[.pointer q, .int .i64 (([] : List UInt8).length : Int)]).run P w = _ from fT (Lib.run_unsafeString_none w t u ty q)]
  refine hs _ _ k w _ ((hm0.perm hsel.perm).sub (List.sublist_cons_self _ _)) (ho.put hd' rfl)
 ·rcases hφ.2 with ⟨_, h, _⟩ | ⟨gb, o, cur, ha, hgb, h3, h4, h5⟩
  ·exact absurd h hl
  ·have hcap : r.cap ≠ 0 := by
    have : 0 < l.length := List.length_pos_iff.2 hl
    omega
   have hqe : q = some ⟨gb, o, none⟩ := (hq (.inr hcap)).trans ha
   subst hqe
   have hb := hφ.1
   have hb' : l.length ≤ 140737488355328 := by have : l.length * 1 ≤ 140737488355328 := hb; omega
   have h4' : o + r.cap ≤ cur.size := by have : o + r.cap * 1 ≤ cur.size := h4; omega
   have hrun := ahe (P := P) (w := w) t u ty e hp hc gb o cur.size (by simp [World.shape?, hgb]) l hl (by omega) (by omega) (fun j x hx => by
    have := (h5 j x hx).1 0 _ rfl
    have e1 : o + (j * ak.n UInt8 + 0) = o + j := by show o + (j * 1 + 0) = _; omega
    rw [e1] at this
    simp [World.cell?, hgb, this])
   rw [show (builtin .unsafeString #[t, u] ty cs #[.pointer (some ⟨gb, o, none⟩), .int .i64 (l.length : Int)]).run P w = _ from fT hrun]
   have hblt : gb < w.heap.size := (Array.getElem?_eq_some_iff.1 hgb).1
   have hfr : Frame (aO (α := UInt8) e r l).fp w (w.freeze ⟨gb, o, none⟩ l.length) := by
    unfold World.freeze
    split
    ·exact Frame.refl _ w
    ·refine ⟨rfl, rfl, rfl, by simp, fun k _ hn => ?_⟩
     have hne : gb ≠ k := fun h => hn ⟨_, ha, h.symm⟩
     simp [Array.getElem?_modify, hne]
   let c0 : Chunk := ⟨fun _ => False, fun _ _ => True, fun _ _ _ _ _ => trivial, fun _ _ _ _ _ => trivial⟩
   have hm1 : gB S κ (aO (α := UInt8) e r l :: H') w := hms.perm hsel.perm
   have hm2 := hm1.upd (c' := c0) .head hfr (fun _ h => h) (fun _ h => .inl h) (fun k hk => Nat.lt_of_lt_of_le (hms.lt k hk) hfr.size) trivial (fun k hk => hk.elim)
   exact hs _ _ k _ _ ⟨S, hm2.sub' (List.sublist_cons_self _ _)⟩ (ho.put hd' rfl)
end
/-! ### Package-level variables -/
theorem Mem.Bp {S : bD} {w : World} {cs H : List Chunk} {c : Chunk} (hm : Mem (rP w S cs) H w) (hf : ∀ k, ¬ c.fp k) (h : c.φ S w) : Mem (rP w S cs) (c :: H) w := by
 obtain ⟨S', hs⟩ := hm
 exact ⟨S', hs.add (Frame.refl _ w) (fun _ h => h) (fun _ h => .inl h) hs.lt (c.mono S S' w hs.sub h) (fun k hk => (hf k hk).elim)⟩
/-! ### A range over a string -/
section
variable {P : Program} {n : Nat} {κ : Ctx} {ρ : Env} {H : List Chunk} {C : Env → List Chunk → Prop} {g : Bool}
end
end Go.Dc
namespace Go.Dc
open Go.RowKit ak
def eG (g : Nat) (vs : List Value) : Chunk where
 fp := fun _ => False
 φ := fun S w => S g ∧ ∃ T fz, w.heap[g]? = some (.cells vs.toArray T fz)
 dep := fun S w w' h hw => ⟨hw.1, by rw [h g (.inr hw.1)]; exact hw.2⟩
 mono := fun S S' w h hw => ⟨h _ hw.1, hw.2⟩
theorem abJ {P : Program} {g : Nat} {name : String} {k : IntKind} {zs : List Int} {S : bD} {w : World} (h : (eG g (zs.map fun z => .int k z)).φ S w) (hg : P.globalNamed name = some g) : Lib.TabIs P w name k zs := by
 obtain ⟨_, T, fz, hc⟩ := h
 unfold Lib.TabIs World.var?
 rw [hg]
 simp [hc]
theorem abK {P : Program} {g : Nat} {name : String} {vs : List Value} {w : World} (h : w.var? P name = some vs.toArray) (hg : P.globalNamed name = some g) : (eG g vs).φ (fun k => k < w.heap.size) w := by
 unfold World.var? at h
 rw [hg] at h
 simp only [Option.bind_some] at h
 split at h
 ·rename_i cs T fz hc
  have : cs = vs.toArray := Option.some.inj h
  subst this
  exact ⟨(Array.getElem?_eq_some_iff.1 hc).1, T, fz, hc⟩
 ·cases h
section
variable {P : Program} {n : Nat} {κ : Ctx} {ρ : Env} {H : List Chunk} {g : Bool}
def UE (P : Program) (t m : Nat) : Bool := match P.underlying t with
 | some (.array k e) => k == m && (match P.info? e with | some i => i.size == 1 | none => false) && kU P e
 | _ => false
/-! Two or three operations that may come up, before the region's last. -/
def Uv (P : Program) (n : Nat) (κ : Ctx) (ops : Array Oper) (K : Act → World → Prop) (Hs : List Chunk) (z fuel : Nat) (listed : Array Bool) (ρ : Env) (H : List Chunk) (i : Nat) : Prop :=
 ∃ o, ops[i]? = some o ∧ o.guard = none ∧ gD P n κ o ρ H (fun ρ' H' => (∀ w, Mem κ H' w → Mem κ Hs w) ∧ AZ P n κ ops K Hs z fuel (listed.setIfInBounds i true) ρ' H')
section
variable {ops : Array Oper} {K : Act → World → Prop} {Hs : List Chunk} {z fuel : Nat} {listed : Array Bool}
theorem Uv.wpOp {i : Nat} (h : Uv P n κ ops K Hs z fuel listed ρ H i) {w : World} {a : Act} (hm : Mem κ H w) (ho : Ok n ρ a) :
  Go.wpOp P ops (fun e a w => e = .normal ∧ K a w) i (fun a' w' => (i ≠ z → Mem κ Hs w') ∧ uJ P .any ops (fun e a w => e = .normal ∧ K a w) (fun w => Mem κ Hs w) z fuel (listed.setIfInBounds i true) a' w') a w := by
 obtain ⟨o, hi, hg, hs⟩ := h
 unfold Go.wpOp
 simp only [hi, Region.wanted, hg, if_true]
 refine .inl (hs _ _ ?_ w a hm ho)
 intro ρ' H' ⟨c1, c2⟩ w' a' hm' ho'
 exact ⟨fun _ => c1 w' hm', c2 w' a' hm' ho'⟩
end
variable {C : Env → List Chunk → Prop}
end
end Go.Dc
namespace Go.Dc
open Go.RowKit ak
theorem Xc {P : Program} {w : World} : ∀ {l : List (String × DataW Unit)} {ps : List MemPlace}, DataW.LaidVars P w l ps → ∀ (n : String) (d : DataW Unit), (n, d) ∈ l →
  ∃ g t cs fuel p, P.globalNamed n = some g ∧ (P.globals[g]?).map (·.type) = some t ∧ w.var? P n = some cs ∧ DataW.trod (fun _ => ()) P w 0 (fun _ => true) false fuel t cs.toList = some (d, p)
 | [], _, _, n, d, hm => by simp at hm
 | (n', d') :: r, ps, h, n, d, hm => by
  obtain ⟨g, t, cs, fuel, p, q, h1, h2, h3, h4, h5, _⟩ := h
  rcases List.mem_cons.1 hm with e | e
  ·cases e; exact ⟨g, t, cs, fuel, p, h1, h2, h3, h4⟩
  ·exact Xc h5 n d e
theorem ae9 {P : Program} {w : World} {l : List (String × DataW Unit)} (h : laidMetH P l w) (n : String) (d : DataW Unit) (hm : (n, d) ∈ l) (hd : d.handleName? = none) :
  ∃ g t cs fuel p, P.globalNamed n = some g ∧ (P.globals[g]?).map (·.type) = some t ∧ w.var? P n = some cs ∧ DataW.trod (fun _ => ()) P w 0 (fun _ => true) false fuel t cs.toList = some (d, p) := by
 obtain ⟨⟨ps, hl, _⟩, _⟩ := laidMetH_iff.1 h
 exact Xc hl n d (List.mem_filter.2 ⟨hm, by simp [hd]⟩)
def Pw (P : Program) (name : String) (g n : Nat) (k : Option IntKind) : Bool :=
 decide (P.globalNamed name = some g) && match (P.globals[g]?).map (·.type) with
 | some t => decide (P.cellsOf t = n) && match P.underlying t with
  | some (.array m e) => decide (m = n) && decide (P.cellsOf e = 1) && match P.underlying e, k with
   | some (.int k'), some k => decide (k' = k)
   | some .string, none => true
   | _, _ => false
  | _ => false
 | none => false
theorem abB {P : Program} {name : String} {g n : Nat} {k : IntKind} (h : Pw P name g n (some k) = true) :
  P.globalNamed name = some g ∧ ∃ t e, (P.globals[g]?).map (·.type) = some t ∧ P.underlying t = some (.array n e) ∧ P.underlying e = some (.int k) ∧ P.cellsOf e = 1 ∧ P.cellsOf t = n := by
 unfold Pw at h
 simp only [Bool.and_eq_true, decide_eq_true_eq] at h
 refine ⟨h.1, ?_⟩
 have h := h.2
 split at h
 ·rename_i t ht
  simp only [Bool.and_eq_true, decide_eq_true_eq] at h
  obtain ⟨hc, h⟩ := h
  split at h
  ·rename_i m e hu
   simp only [Bool.and_eq_true, decide_eq_true_eq] at h
   obtain ⟨⟨rfl, h1⟩, h2⟩ := h
   split at h2
   ·rename_i k' k2 he hk
    cases hk
    simp only [decide_eq_true_eq] at h2
    subst h2
    exact ⟨t, e, ht, hu, he, h1, hc⟩
   ·rename_i hk; cases hk
   ·cases h2
  ·cases h
 ·cases h
theorem afa {P : Program} {w : World} {l : List (String × DataW Unit)} (h : laidMetH P l w) (n : String) (g m : Nat) (k : IntKind) (zs : List Int) (hb : Pw P n g m (some k) = true) (hm : (n, Lib.tabData k zs) ∈ l) : (eG g (zs.map fun z => .int k z)).φ (fun k => k < w.heap.size) w := by
 obtain ⟨hg, t, e, h1, h2, h3, h4, h5⟩ := abB hb
 obtain ⟨g', t', cs, fuel, p, e1, e2, e3, e4⟩ := ae9 h n _ hm rfl
 obtain rfl := Option.some.inj (hg.symm.trans e1)
 obtain rfl := Option.some.inj (h1.symm.trans e2)
 refine abK ?_ hg
 rw [e3, ← Lib.cells_of_tab h2 h3 h4 h5 e4]
end Go.Dc
namespace Go.Dc
open Go.RowKit ak
section
variable {P : Program} {n : Nat} {κ : Ctx} {ρ : Env} {H : List Chunk} {g : Bool}
theorem aa9 {x y : Operand} {t m : Nat} {k : IntKind} {i : Int} {xs : List Nat} {v : Nat} (l : List Value) (hi : g = true → idx xs i = some v) (hl : l = xs.map (fun s => .func (.func s) #[] #[]) := by rfl) (hm : xs.length = m := by rfl)
  (hx : Gets ρ g x (.agg l.toArray) := by exact gT) (hy : Gets ρ g y (.int k i) := by exact gT)
  (ht : UE P t m = true := by kernel_rfl) : Ev P n κ H ρ g (.index t x y) (.func (.func v) #[] #[]) := by
 intro w a dst ty pos aJ gd hm' ho hg
 have e1 := hx.eval ho hg
 have e2 := hy.eval ho hg
 obtain ⟨h0, hlt, hv⟩ := lg (hi hg)
 unfold UE at ht
 split at ht
 ·rename_i kk e hu
  simp only [Bool.and_eq_true, beq_iff_eq] at ht
  obtain ⟨⟨h1, h2⟩, h3⟩ := ht
  cases hti : P.info? e with
  | none => rw [hti] at h2; cases h2
  | some ti =>
   rw [hti] at h2
   simp at h2
   show (Instr.index t (a.eval x) (a.eval y) >>= fun v => pure (Next.value v)).run P w = _
   rw [e1, e2]
   refine fT ?_
   unfold Instr.index
   show (underlying t >>= _).run P w = _
   rw [run_bind_ok (jm hu w)]
   have hb : 0 ≤ i ∧ i < (kk : Int) := by rw [h1, ← hm]; exact ⟨h0, hlt⟩
   simp only [hb, and_self, if_true]
   rw [run_bind_ok (rE hti w), h2, Nat.mul_one]
   refine CK h3 ?_
   subst hl
   simp [hv]
 ·cases ht
/-! ### Regions of many orders: every set of what has come up is one lemma -/
variable {ops : Array Oper} {K : Act → World → Prop} {Hs : List Chunk} {fuel : Nat} {listed : Array Bool}
def LH (Q : Nat × EV → Prop) : Env → Prop
 | [] => True
 | p :: r => Q p ∧ LH Q r
theorem LH.mem {Q : Nat × EV → Prop} : ∀ {l : Env}, LH Q l → ∀ p ∈ l, Q p
 | _ :: _, h, p, hp => (List.mem_cons.1 hp).elim (fun e => e ▸ h.1) (fun hp => LH.mem h.2 p hp)
end
end Go.Dc
namespace Go.Dc
open Go.RowKit ak
def SR.put {ρ : Type} (r : SR ρ) (i : Nat) (q : ρ) : SR ρ := ⟨r.a, r.cap, fun j => if j = i then q else r.es j⟩
def hrow {α : Type} [ak α] (on : Nat → Prop) (e : TypeId) (r : SR (R α)) (xs : List α) : Chunk where
 fp := fun k => ∃ p, r.a = some p ∧ k = p.block
 φ := fun S w => xs.length * ak.bytes α ≤ 140737488355328 ∧ ((r.a = none ∧ xs = [] ∧ r.cap = 0) ∨
  ∃ g o cur, r.a = some ⟨g, o, none⟩ ∧ w.heap[g]? = some (.cells cur e (0, 0)) ∧ xs.length ≤ r.cap ∧ o + r.cap * n α ≤ cur.size ∧
   ∀ i x, xs[i]? = some x → (∀ j v, (enc (r.es i) x)[j]? = some v → cur[o + (i * n α + j)]? = some v) ∧ (on i → ok S w (r.es i) x))
 dep := fun S w w' h hw => by
  refine ⟨hw.1, ?_⟩
  rcases hw.2 with h2 | ⟨g, o, cur, ha, hg, h3, h4, h5⟩
  ·exact .inl h2
  ·refine .inr ⟨g, o, cur, ha, ?_, h3, h4, fun i x hx => ⟨(h5 i x hx).1, fun ho => ak.dep S w w' _ _ (fun k hk => h k (.inr hk)) ((h5 i x hx).2 ho)⟩⟩
   rw [h g (.inl ⟨_, ha, rfl⟩)]
   exact hg
 mono := fun S S' w h hw => by
  refine ⟨hw.1, ?_⟩
  rcases hw.2 with h2 | ⟨g, o, cur, ha, hg, h3, h4, h5⟩
  ·exact .inl h2
  ·exact .inr ⟨g, o, cur, ha, hg, h3, h4, fun i x hx => ⟨(h5 i x hx).1, fun ho => ak.mono S S' w _ _ h ((h5 i x hx).2 ho)⟩⟩
section
variable {P : Program} {n : Nat} {κ : Ctx} {ρ : Env} {H : List Chunk} {g : Bool} {C : Env → List Chunk → Prop}
/-! ### Reading -/
def Cl {α : Type} [ak α] (κ : Ctx) (H : List Chunk) (r : SR (R α)) (xs : List α) : Prop :=
 ∀ w, Mem κ H w → xs.length ≤ 140737488355328 ∧ ∀ i x, xs[i]? = some x → r.a = some ⟨sb r.a, so r.a, none⟩ ∧ ∀ j v, (enc (r.es i) x)[j]? = some v → w.cell? ⟨sb r.a, so r.a + (i * ak.n α + j), none⟩ = some v
theorem Cl.hrow {α : Type} [ak α] {on : Nat → Prop} {e : TypeId} {r : SR (R α)} {xs : List α} (h : Has H (Dc.hrow on e r xs)) : Cl κ H r xs := fun w hm => by
 obtain ⟨S, hs⟩ := hm
 have h0 := h.φ hs
 have hb := ak.bpos (α := α)
 refine ⟨?_, fun i x hx => ?_⟩
 ·calc xs.length = xs.length * 1 := by omega
   _ ≤ xs.length * ak.bytes α := Nat.mul_le_mul_left _ hb
   _ ≤ _ := h0.1
 ·rcases h0.2 with ⟨_, h2, _⟩ | ⟨g, o, cur, ha, hg, h3, h4, h5⟩
  ·subst h2; simp at hx
  ·refine ⟨by rw [ha]; rfl, fun j v hv => ?_⟩
   rw [ha]
   show w.cell? ⟨g, o + (i * ak.n α + j), none⟩ = some v
   simp [World.cell?, hg, (h5 i x hx).1 j v hv]
theorem Cl.len {α : Type} [ak α] {r : SR (R α)} {xs : List α} (h : Cl κ H r xs) {w : World} (hm : Mem κ H w) : xs.length ≤ 140737488355328 := (h w hm).1
end
end Go.Dc
namespace Go.Dc
open Go.RowKit ak
class Inner (α : Type) (β : outParam Type) [ak α] [ak β] where
 get : α → List β
 rep : R α → SR (R β)
 okI : ∀ S w r x, ng S w (rep r) (get x) → ok S w r x
section
variable {α β : Type} [ak α] [ak β] [Inner α β]
variable {P : Program} {n : Nat} {κ : Ctx} {ρ : Env} {H : List Chunk} {g : Bool} {C : Env → List Chunk → Prop}
theorem gB.cut {S : bD} {w : World} {c c1 c2 : Chunk} {H : List Chunk} (hm : gB S κ (c :: H) w) (h1 : c1.φ S w) (h2 : c2.φ S w) (f1 : ∀ k, c1.fp k → c.fp k) (f2 : ∀ k, c2.fp k → c.fp k) (hd : uo c1 c2) :
  gB S κ (c1 :: c2 :: H) w := by
 have h0 := hm.all _ List.mem_cons_self
 have hp := List.pairwise_cons.1 hm.ni
 refine ⟨hm.frame, hm.sub, hm.sup, hm.lt, fun d hd' => ?_, ?_⟩
 ·rcases List.mem_cons.1 hd' with rfl | hd'
  ·exact ⟨h1, fun k hk => h0.2 k (f1 k hk)⟩
  ·rcases List.mem_cons.1 hd' with rfl | hd'
   ·exact ⟨h2, fun k hk => h0.2 k (f2 k hk)⟩
   ·exact hm.all d (List.mem_cons_of_mem _ hd')
 ·rw [List.pairwise_cons, List.pairwise_cons]
  refine ⟨fun d hd' k hk hk' => ?_, fun d hd' k hk hk' => hp.1 d hd' k (f2 k hk) hk', hp.2⟩
  rcases List.mem_cons.1 hd' with rfl | hd'
  ·exact hd k hk hk'
  ·exact hp.1 d hd' k (f1 k hk) hk'
/-! ### Reading -/
/-! ### Append -/
structure Raw (α : Type) [ak α] where
 l : List Value
 hl : l.length = ak.n α
 h1 : ∀ v ∈ l, v.oneCell' = true
instance : ak (Raw α) where
 R := Unit
 n := ak.n α
 bytes := ak.bytes α
 enc := fun _ x => x.l
 ok := fun _ _ _ _ => True
 npos := ak.npos
 bpos := ak.bpos
 len := fun _ x => x.hl
 one := fun _ x => x.h1
 mono := fun _ _ _ _ _ _ h => h
 dep := fun _ _ _ _ _ _ h => h
end
end Go.Dc
namespace Go.Dc
open Go.RowKit ak
inductive Any where
 | s (x : Str)
 | i (x : Int)
 deriving DecidableEq, Inhabited
def Any.gM : Any → Bool
 | .s _ => true
 | .i _ => false
def Any.BM : Any → Bool
 | .s _ => false
 | .i _ => true
def Any.str : Any → Str
 | .s x => x
 | .i _ => ⟨[]⟩
def Any.int : Any → Int
 | .s _ => 0
 | .i x => x
def xB (ts ti : Nat) : Any → Value
 | .s x => .iface ts (.string x.ba)
 | .i x => .iface ti (.int .i64 x)
section
variable {P : Program} {n : Nat} {κ : Ctx} {ρ : Env} {H : List Chunk} {g : Bool}
theorem Zy {t : TypeId} {v : Value} (h : ((P.info? t).bind fun i => i.zero) = some v) (w : World) : (zeroValue t).run P w = .ok v w := by
 cases hi : P.info? t with
 | none => rw [hi] at h; cases h
 | some i =>
  rw [hi] at h
  have hz : i.zero = some v := h
  unfold zeroValue
  rw [run_bind_ok (CJ hi w)]
  simp only [hz]
  rfl
def MF (P : Program) (t : TypeId) : Bool := match P.underlying t with | some (.int .i64) => true | _ => false
theorem lW {x : Operand} {ts ti : Nat} {s : Str} (hx : Gets ρ g x (.string s.ba) := by exact gT)
  (ht : CQ P ts = true := by kernel_rfl) : Ev P n κ H ρ g (.makeInterface ts x) (xB ts ti (.s s)) := by
 intro w a dst ty pos aJ gd hm ho hg
 have e := hx.eval ho hg
 unfold CQ at ht
 split at ht
 ·rename_i hu
  show (Instr.makeInterface ts (a.eval x) >>= fun v => pure (Next.value v)).run P w = _
  rw [e]
  refine fT ?_
  unfold Instr.makeInterface
  show (underlying ts >>= _).run P w = _
  rw [run_bind_ok (jm hu w)]
  rfl
 ·cases ht
theorem oH {x : Operand} {ts ti : Nat} {i : Int} (hx : Gets ρ g x (.int .i64 i) := by exact gT)
  (ht : MF P ti = true := by kernel_rfl) : Ev P n κ H ρ g (.makeInterface ti x) (xB ts ti (.i i)) := by
 intro w a dst ty pos aJ gd hm ho hg
 have e := hx.eval ho hg
 unfold MF at ht
 split at ht
 ·rename_i hu
  show (Instr.makeInterface ti (a.eval x) >>= fun v => pure (Next.value v)).run P w = _
  rw [e]
  refine fT ?_
  unfold Instr.makeInterface
  show (underlying ti >>= _).run P w = _
  rw [run_bind_ok (jm hu w)]
  rfl
 ·cases ht
theorem abe {x : Operand} {xt ts ti : Nat} {v : Any} (hx : Gets ρ g x (xB ts ti v) := by exact gT)
  (ht : CQ P ts = true := by kernel_rfl) (hne : Nat.beq ti ts = false := by rfl) (hz : ((P.info? ts).bind fun i => i.zero) = some (.string (Str.ba ⟨[]⟩)) := by kernel_rfl) :
  Ev P n κ H ρ g (.typeAssert x xt ts true) (.tuple #[.string v.str.ba, .bool v.gM]) := by
 intro w a dst ty pos aJ gd hm ho hg
 have e := hx.eval ho hg
 unfold CQ at ht
 split at ht
 ·rename_i hu
  show (Instr.typeAssert (a.eval x) xt ts true >>= fun v => pure (Next.value v)).run P w = _
  rw [e]
  refine fT ?_
  unfold Instr.typeAssert
  show (underlying ts >>= _).run P w = _
  rw [run_bind_ok (jm hu w)]
  cases v with
  | s y => simp [xB, Any.str, Any.gM]
  | i y =>
   have h2 : ti ≠ ts := fun h => by subst h; simp at hne
   simp only [xB, if_neg h2, Any.str, Any.gM]
   show (zeroValue ts >>= _).run P w = _
   rw [run_bind_ok (Zy hz w)]
   rfl
 ·cases ht
theorem abd {x : Operand} {xt ts ti : Nat} {v : Any} (hx : Gets ρ g x (xB ts ti v) := by exact gT)
  (ht : MF P ti = true := by kernel_rfl) (hne : Nat.beq ts ti = false := by rfl) (hz : ((P.info? ti).bind fun i => i.zero) = some (.int .i64 0) := by kernel_rfl) :
  Ev P n κ H ρ g (.typeAssert x xt ti true) (.tuple #[.int .i64 v.int, .bool v.BM]) := by
 intro w a dst ty pos aJ gd hm ho hg
 have e := hx.eval ho hg
 unfold MF at ht
 split at ht
 ·rename_i hu
  show (Instr.typeAssert (a.eval x) xt ti true >>= fun v => pure (Next.value v)).run P w = _
  rw [e]
  refine fT ?_
  unfold Instr.typeAssert
  show (underlying ti >>= _).run P w = _
  rw [run_bind_ok (jm hu w)]
  cases v with
  | i y => simp [xB, Any.int, Any.BM]
  | s y =>
   have h2 : ts ≠ ti := fun h => by subst h; simp at hne
   simp only [xB, if_neg h2, Any.int, Any.BM]
   show (zeroValue ti >>= _).run P w = _
   rw [run_bind_ok (Zy hz w)]
   rfl
 ·cases ht
/-! ### Regions of many orders, the last operation of which writes what the others read -/
variable {ops : Array Oper} {K : Act → World → Prop} {Hs : List Chunk} {z fuel : Nat} {listed : Array Bool}
end
end Go.Dc
namespace Go.Dc
open Go.RowKit ak
section
variable {P : Program} {n : Nat} {κ : Ctx} {ρ : Env} {H : List Chunk} {g : Bool} {C : Env → List Chunk → Prop}
theorem hA {H : List Chunk} {c : Chunk} (h : Has H c := by repeat (first | exact Has.head | apply Has.tail)) : Has H c := h
theorem uA {H H' : List Chunk} {c c' : Chunk} (h : eD H c c' H' := by repeat (first | exact eD.head | apply eD.tail)) : eD H c c' H' := h
theorem uR {α : Type} {H : List Chunk} {c : Chunk} {c' : α → Chunk} {H' : α → List Chunk} (h : ∀ r', eD H c (c' r') (H' r') := by intro r'; repeat (first | exact eD.head | apply eD.tail)) : ∀ r', eD H c (c' r') (H' r') := h
theorem sA {H H' cs : List Chunk} (h : iQ H cs H' := by repeat (first | exact iQ.nil | (apply iQ.cons; · (repeat (first | exact jC.head | apply jC.tail))))) : iQ H cs H' := h
theorem s1 {H H' : List Chunk} {c : Chunk} (h : jC H c H' := by repeat (first | exact jC.head | apply jC.tail)) : jC H c H' := h
theorem rI {H H' : List Chunk} (h : ∀ w, Mem κ H w → Mem κ H' w := by intro w hm; exact hm.agI) : ∀ w, Mem κ H w → Mem κ H' w := h
theorem kI {α : Type} [ak α] {S : bD} {w : World} {r : R α} {x : α} (hs : gB S κ H w) (h : Has H (dJ r x) := by repeat (first | exact Has.head | apply Has.tail)) : ok S w r x := h.φ hs
theorem kM {α : Type} [ak α] {S : bD} {w : World} {r : R α} {x : α} (hs : gB S κ H w) (h : Has H (dJ r x) := by repeat (first | exact Has.head | apply Has.tail)) : ok (lend S H) w r x := Kn.lend (Kn.dJ h) hs
theorem kT {α : Type} [ak α] {e : TypeId} {S : bD} {w : World} {r : SR (R α)} {x : List α} (hs : gB S κ H w) (h : Has H (aO e r x) := by repeat (first | exact Has.head | apply Has.tail)) : ok (α := List α) (lend S H) w r x := Kn.lend (Kn.aO h) hs
theorem oF {α : Type} [ak α] {es : Nat → R α} {xs : List α} (h : ∀ S w r x, ok (α := α) S w r x := by exact fun _ _ _ _ => trivial) : mD κ H es xs := mD.flat h
theorem iS {α : Type} {xs : List α} {i : Int} {x : α} (h : idx xs i = some x) {g : Bool} : g = true → 0 ≤ i ∧ i < xs.length := fun _ => ⟨(lg h).1, (lg h).2.1⟩
theorem iT {α : Type} {b : Bool} {x y r : α} (h : b = true) (hM : (if b then x else y) = r) : x = r := (aeX h).symm.trans hM
theorem iF {α : Type} {b : Bool} {x y r : α} (h : b = false) (hM : (if b then x else y) = r) : y = r := (aeW h).symm.trans hM
theorem pJ {β : Type} {cs' : β → List Chunk} (h : ∀ r c, c ∈ cs' r → G8 c := by (intro r c hc; simp only [List.mem_cons, List.not_mem_nil, or_false] at hc; repeat (first | (rcases hc with rfl | hc; (first | exact Bq | exact Iq (fun _ _ _ _ => trivial))) | (subst hc; (first | exact Bq | exact Iq (fun _ _ _ _ => trivial)))))) : ∀ r c, c ∈ cs' r → G8 c := h
section
variable {Q : Exit → Act → World → Prop} {ops : Array Oper} {rest : List Oper}
theorem sr {id : Nat} {l : List Oper} {y : Code} (h : OW P n κ l.toArray (Exit.then (y.wp P Q) Q) l ρ H) : CW P n κ (.seq (.region id l.toArray false) y) Q ρ H :=
 fun w a hm ho => wp_seq (aR h w a hm ho)
theorem on {y : Code} (h : CW P n κ y Q ρ H) : OW P n κ ops (Exit.then (y.wp P Q) Q) [] ρ H := aU h
theorem oe {op : Op} {v : Value} {d : Nat} {ty : TypeId} {pos : String} {aJ : Array Edge}
  (h : Ev P n κ H ρ true op v) (k : OW P n κ ops Q rest ((d, .v v) :: ρ) H) (hd : Nat.blt d n = true := by rfl) :
  OW P n κ ops Q (⟨some d, op, ty, pos, aJ, none⟩ :: rest) ρ H := aH h k hd
theorem om {x : Operand} {v : Value} {d : Nat} {ty : TypeId} {pos : String} {aJ : Array Edge} (k : OW P n κ ops Q rest ((d, .v v) :: ρ) H)
  (hx : Gets ρ true x v := by exact gT) (hd : Nat.blt d n = true := by rfl) : OW P n κ ops Q (⟨some d, .move x, ty, pos, aJ, none⟩ :: rest) ρ H := aH (aG hx) k hd
theorem oa {x : Operand} {v : Value} {d : Nat} {ty : TypeId} {pos : String} {aJ : Array Edge} (k : OW P n κ ops Q rest ((d, .v v) :: ρ) H)
  (hx : Gets ρ true x v := by exact gT) (hd : Nat.blt d n = true := by rfl) : OW P n κ ops Q (⟨some d, .assign x, ty, pos, aJ, none⟩ :: rest) ρ H := aH (bX hx) k hd
theorem cc {α : Type} {c : Operand} {x y : Code} {t : Bool} {X Y r : α} (hc : lJ ρ c = some (.v (.bool t))) (hM : (if t then X else Y) = r) (ht : t = true → X = r → CW P n κ x Q ρ H) (hf : t = false → Y = r → CW P n κ y Q ρ H) :
  CW P n κ (.cond c x y) Q ρ H := pG hc (fun h => ht h (iT h hM)) (fun h => hf h (iF h hM))
end
end
end Go.Dc
namespace Go.Dc
open Go.RowKit ak
abbrev sL {ρ α : Type} (r : SR ρ) (l : List α) : Value := .slice r.a l.length r.cap
abbrev vI (x : Int) : Value := .int .i64 x
abbrev vP (b : Nat) : Value := .pointer (some ⟨b, 0, none⟩)
abbrev eP (b : Nat) : EV := .v (.pointer (some ⟨b, 0, none⟩))
abbrev eI (x : Int) : EV := .v (.int .i64 x)
abbrev eS {ρ α : Type} (r : SR ρ) (l : List α) : EV := .v (.slice r.a l.length r.cap)
abbrev iL {α : Type} [ak α] (x : List α) (r : ak.R (List α)) : Chunk := dJ (α := List α) r x
abbrev sB (S : bD) (w : World) : Prop := ∀ k, S k → k < w.heap.size
section
variable {P : Program} {n : Nat} {κ : Ctx} {ρ : Env} {H : List Chunk} {g : Bool}
theorem kG {α : Type} [ak α] (x : List α) (r : ak.R (List α)) (h : Has H (dJ (α := List α) r x) := by repeat (first | exact Has.head | apply Has.tail)) : Kn κ H (α := List α) r x := Kn.dJ h
end
end Go.Dc

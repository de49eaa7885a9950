/- Several parts of the engine, one behind the other. -/
import Derived.Test.YtcalibhfgdncaaaDm
import Derived.RangeFuncIn
import Derived.RangeFuncRecord
import Derived.RangeFuncLeaves
import Derived.TacticsIn
import Derived.OrdersIn
import Derived.Lib.AppendStr
import Derived.Lib.UnsafeStr
import Derived.Lib.Builder
import Derived.Lib.OthersKept
import Derived.Laws.IdiomStrings
import Derived.Lib.LaidTab
set_option linter.all false
namespace Go.Dc
open Go.RowKit aj
structure Xn where
 a : Option Addr
 len : Nat
 cap : Nat
instance : aj Xn where
 R := Unit
 n := 1
 bytes := 24
 enc := fun _ x => [.slice x.a x.len x.cap]
 ok := fun _ _ _ _ => True
 npos := by decide
 bpos := by decide
 len := fun _ _ => rfl
 one := fun r x v hv => by simp at hv; subst hv; rfl
 mono := fun _ _ _ _ _ _ h => h
 dep := fun _ _ _ _ _ _ h => h
section
variable {P : Program} {n : Nat} {κ : Ctx} {ρ : Env} {H : List Chunk} {g : Bool} {C : Env → List Chunk → Prop} {β : Type} [aj β]
end
end Go.Dc
namespace Go.Dc
open Go.RowKit aj
section
variable {P : Program} {n : Nat} {κ : Ctx} {ρ : Env} {H : List Chunk} {g : Bool}
theorem Kn.aer {α : Type} [aj α] {r : SR (R α)} {xs ys : List α} {lo hi : Int} (h : Kn κ H (α := List α) r xs) (hq : sub xs lo hi = some ys) : Kn κ H (α := List α) (r.sub lo.toNat (aj.n α)) ys :=
 h.map fun _ _ hs => qg.sub hs hq
theorem Ok.same {v v' : Value} {a : Act} {t : Nat} (h : Ok n ρ a) (hl : look ρ t = some (.v v)) (he : v = v') : Ok n ((t, .v v') :: ρ) a := by
 subst he
 refine ⟨h.size, h.pW, fun u e he => ?_⟩
 simp only [look] at he
 by_cases hb : t = u
 ·subst hb
  simp at he
  subst he
  exact h.get _ _ hl
 ·have hb' : Nat.beq t u = false := yO hb
  rw [hb'] at he
  exact h.get u e he
theorem Pz {ops : Array Oper} {Q : Exit → Act → World → Prop} {rest : List Oper} {v v' : Value} (t : Nat) (hl : look ρ t = some (.v v)) (he : v = v') (k : OW P n κ ops Q rest ((t, .v v') :: ρ) H) : OW P n κ ops Q rest ρ H :=
 fun w a hm ho => k w a hm (ho.same hl he)
theorem JX {ops : Array Oper} {K : Act → World → Prop} {Hs : List Chunk} {fuel : Nat} {listed : Array Bool} {v v' : Value} (t : Nat) (hl : look ρ t = some (.v v)) (he : v = v') (k : AW P n κ ops K Hs fuel listed ((t, .v v') :: ρ) H) : AW P n κ ops K Hs fuel listed ρ H :=
 fun w a hm hs ho => k w a hm hs (ho.same hl he)
end
end Go.Dc
namespace Go.Dc
open Go.RowKit aj
theorem Str.SK {s t : Str} : s.ba = t.ba ↔ s = t := ⟨Str.SL, fun h => by rw [h]⟩
def xD {α : Type} (xs : List α) (lo : Nat) (ys : List α) : List α := xs.take lo ++ ys ++ xs.drop (lo + ys.length)
def xE {α : Type} (xs : List α) (lo dl : Nat) (ys : List α) : Option (List α) := if lo + dl ≤ xs.length then some (xD xs lo (ys.take dl)) else none
theorem YA {α : Type} (xs : List α) (lo : Nat) : xD xs lo [] = xs := by simp [xD]
theorem Ta {α : Type} {xs ys : List α} {lo : Nat} (h : lo + ys.length ≤ xs.length) : (xD xs lo ys).length = xs.length := by
 simp only [xD, List.length_append, List.length_take, List.length_drop]; omega
theorem BI {α : Type} {xs ys zs : List α} {lo dl : Nat} (h : xE xs lo dl ys = some zs) : zs.length = xs.length := by
 unfold xE at h
 split at h
 ·cases h; exact Ta (by simp only [List.length_take]; omega)
 ·cases h
theorem Yz {α : Type} {xs ys : List α} {lo : Nat} (h : lo + ys.length ≤ xs.length) (q : Nat) : (xD xs lo ys)[q]? = if q < lo then xs[q]? else if q < lo + ys.length then ys[q - lo]? else xs[q]? := by
 have h1 : (xs.take lo).length = lo := by rw [List.length_take]; omega
 unfold xD
 rw [List.append_assoc]
 by_cases a : q < lo
 ·rw [if_pos a, List.getElem?_append_left (by omega), List.getElem?_take, if_pos a]
 ·rw [if_neg a, List.getElem?_append_right (by omega), h1]
  by_cases b : q < lo + ys.length
  ·rw [if_pos b, List.getElem?_append_left (by omega)]
  ·rw [if_neg b, List.getElem?_append_right (by omega), List.getElem?_drop, show lo + ys.length + (q - lo - ys.length) = q by omega]
section
variable {P : Program}
theorem adW {w : World} (t ty e : TypeId) (i : TypeInfo) (ht : P.underlying t = some (.slice e)) (hi : P.info? e = some i)
  (gb o dl cd : Nat) (cur : Array Value) (hg : w.heap[gb]? = some (.cells cur e (0, 0))) (src : Option Addr) (mm c : Nat) (news : List Value) (hl : news.length = Nat.min mm dl * i.size)
  (hnews : ∀ j v, news[j]? = some v → src = some ⟨sb src, so src, none⟩ ∧ w.cell? ⟨sb src, so src + j, none⟩ = some v) (h1 : ∀ u ∈ news, u.oneCell' = true) (hfit : o + news.length ≤ cur.size) :
  (Builtin.copy_ #[t, t] ty #[.slice (some ⟨gb, o, none⟩) dl cd, .slice src mm c]).run P w =
   .ok (.int .i64 (Nat.min mm dl : Nat)) (w.setRow gb (cur.toList.take o ++ news ++ cur.toList.drop (o + news.length)).toArray) := by
 have hf := FK (P := P) (w := w) (size := i.size) (m := Nat.min mm dl) (src := src) (len := mm) (cap := c) hl hnews
 have hst := run_storeCells_at P gb o e news 0 cur w hg (by simpa using hfit) h1
 simp only [Nat.add_zero] at hst
 simp [Builtin.copy_, run_underlying ht, sizeOf, typeInfo, hi, Builtin.lenOf, hf, hst, goInt]
theorem adX {w : World} (t ty e : TypeId) (i : TypeInfo) (ht : P.underlying t = some (.slice e)) (hi : P.info? e = some i) (ba : Option Addr) (dl cd : Nat) (src : Option Addr) (mm c : Nat) (h0 : Nat.min mm dl = 0) :
  (Builtin.copy_ #[t, t] ty #[.slice ba dl cd, .slice src mm c]).run P w = .ok (.int .i64 (0 : Nat)) w := by
 have hf := FK (P := P) (w := w) (size := i.size) (m := 0) (src := src) (len := mm) (cap := c) (cs := []) (by simp) (fun j v hv => by simp at hv)
 cases ba with
 | none => simp [Builtin.copy_, run_underlying ht, sizeOf, typeInfo, hi, Builtin.lenOf, h0, hf, goInt]
 | some a => simp [Builtin.copy_, run_underlying ht, sizeOf, typeInfo, hi, Builtin.lenOf, h0, hf, goInt, storeCells]
end
section
variable {P : Program} {n : Nat} {κ : Ctx} {ρ : Env} {H : List Chunk} {g : Bool} {C : Env → List Chunk → Prop}
theorem Kn.SS {α : Type} [aj α] {r : SR (R α)} {xs : List α} {w : World} (hk : Kn κ H (α := List α) r xs) (hm : Mem κ H w) : xs.length ≤ r.cap := by
 obtain ⟨S, hs⟩ := hm
 obtain ⟨L, _, h2⟩ := hk S w hs
 exact h2.1
theorem Tt {α : Type} [aj α] {x : Operand} {lo hi : Option Operand} {t m : Nat} {r : SR (R α)} {xs ys : List α} {ol oh : Option (IntKind × Int)}
  (hcap : xs.length ≤ r.cap) (hq : g = true → sub xs (oval ol 0) (oval oh xs.length) = some ys)
  (hx : Gets ρ g x (.slice r.a m r.cap) := by exact gT)
  (hm1 : m = xs.length := by first | rfl | simp only [List.length_set, List.length_append, List.length_replicate])
  (hlo : xg ρ g lo ol := by first | exact .none | exact .some (.plain rfl) | exact .some (.cond rfl id) | exact .some (.cond rfl gl))
  (hhi : xg ρ g hi oh := by first | exact .none | exact .some (.plain rfl) | exact .some (.cond rfl id) | exact .some (.cond rfl gl))
  (hsz : elemSize P t = some (aj.n α) := by kernel_rfl) :
  Ev P n κ H ρ g (.slice t x lo hi none) (.slice (r.sub (oval ol 0).toNat (aj.n α)).a ys.length (r.sub (oval ol 0).toNat (aj.n α)).cap) := by
 subst hm1
 intro w a dst ty pos aW gd hm ho hg
 show (Instr.sliceAt t (a.eval x) (lo.map a.eval) (hi.map a.eval) none >>= fun v => pure (Next.value v)).run P w = _
 rw [hx.eval ho hg, hlo.eval ho hg, hhi.eval ho hg]
 exact iP (Ww (hq hg) hcap hsz)
def From {ρ : Type} (r : SR ρ) (lo sz : Nat) (ba : Option Addr) : Prop := ∀ gb o, r.a = some ⟨gb, o, none⟩ → r.cap ≠ lo → ba = some ⟨gb, o + lo * sz, none⟩
theorem From.all {ρ : Type} {r : SR ρ} {sz : Nat} : From r 0 sz r.a := fun gb o h _ => by rw [h]; simp
theorem From.sub {ρ : Type} {r : SR ρ} {lo sz : Nat} : From r lo sz (r.sub lo sz).a := fun gb o h hne => by
 show (if r.cap = lo then r.a else r.a.map (·.add (lo * sz))) = _
 rw [if_neg hne, h]
 simp [Addr.add_lit]
theorem YE {α : Type} [aj α] {es : Nat → R α} {ys : List α} {k j : Nat} {v : Value} (h : (gL es (ys.take k) 0)[j]? = some v) : (gL es ys 0)[j]? = some v := by
 obtain ⟨i, j', x, rfl, hj, hx, hv⟩ := J7 es h
 have hx' : ys[i]? = some x := by
  rw [List.getElem?_take] at hx
  split at hx
  ·exact hx
  ·cases hx
 rw [zX es ys 0 i j' x hx' hj, Nat.zero_add]
 exact hv
theorem WR {α : Type} [aj α] {x y : Operand} {t e sz jG d : Nat} {ty : TypeId} {pos : String} {aW : Array Edge} {gd : Option (Nat × Bool)} {r r2 : SR (R α)} {xs ys zs : List α} {lo dl cd m2 : Nat} {ba : Option Addr} {H' : List Chunk}
  (hu : eD H (ah e r xs) (ah e r zs) H') (hk : Kn κ H (α := List α) r2 ys) (hq : xE xs lo dl ys = some zs) (hba : From r lo sz ba)
  (hfl : ∀ (S : bU) (w : World) (q : R α) (u : α), ok S w q u) (hen : ∀ (p q : R α) (u : α), enc p u = enc q u)
  (k : C ((d, .v (.int .i64 (Nat.min ys.length dl : Nat))) :: ρ) H')
  (hx : Gets ρ true x (.slice ba dl cd) := by exact gT) (hy : Gets ρ true y (.slice r2.a m2 r2.cap) := by exact gT)
  (hm2 : m2 = ys.length := by first | rfl | simp only [List.length_set, List.length_append, List.length_replicate])
  (hd : Nat.blt d n = true := by rfl) (hsz : aj.n α = sz := by rfl) (hby : aj.bytes α = jG := by rfl) (hi : vL P t e sz jG = true := by kernel_rfl) :
  iD P n κ ⟨some d, .call { callee := .builtin .copy, args := #[x, y], argTypes := #[t, t] }, ty, pos, aW, gd⟩ ρ H C := by
 subst hm2
 intro K Q hs w act hm ho
 obtain ⟨hut, i, z, hi', hisz, Kr, hz, hzs, hpos⟩ := FJ hi
 obtain ⟨cs, hcs⟩ := Gz act.eval .copy x y #[t, t] (some d) ty pos aW gd
 have hnews := SV hk hm
 obtain ⟨S, hms⟩ := hm
 have hφ := hu.has.φ hms
 have hin := (hms.all _ hu.has.mem).2
 unfold xE at hq
 split at hq
 case isFalse => cases hq
 rename_i hld
 have OZ : zs = xD xs lo (ys.take dl) := by cases hq; rfl
 have hzl : zs.length = xs.length := by rw [OZ]; exact Ta (by simp only [List.length_take]; omega)
 by_cases h0 : Nat.min ys.length dl = 0
 ·have hnil : ys.take dl = [] := List.length_eq_zero_iff.1 (by rw [List.length_take]; exact (Nat.min_comm _ _).trans h0)
  have hzx : zs = xs := by rw [OZ, hnil, YA]
  subst hzx
  unfold Oper.wp
  rw [hcs, hx.eval ho rfl, hy.eval ho rfl]
  have hr := iP (P := P) (adX (P := P) (w := w) t ty e i hut hi' ba dl cd r2.a ys.length r2.cap h0)
  rw [show (0 : Nat) = Nat.min ys.length dl from h0.symm] at hr
  rw [show builtin .copy #[t, t] ty cs #[.slice ba dl cd, .slice r2.a ys.length r2.cap] = (Builtin.copy_ #[t, t] ty #[.slice ba dl cd, .slice r2.a ys.length r2.cap] >>= fun v => pure (Next.value v)) from rfl, hr]
  exact hs _ _ k w _ ⟨S, hms.upd hu (Frame.refl _ w) (fun _ h => h) (fun _ h => .inl h) hms.lt hφ (fun kk hk => ⟨.inl hk, (hin kk hk).1, (hin kk hk).2.1⟩)⟩ (ho.put (by simpa [Nat.blt_eq] using hd) rfl)
 ·rcases hφ.2 with ⟨ha, OM, hc0⟩ | ⟨gb, o, cur, ha, hgb, h3, h4, h5⟩
  ·subst OM
   have : dl = 0 := by simp at hld; omega
   subst this
   exact absurd (Nat.min_zero _) h0
  ·have hne : r.cap ≠ lo := by
    have : 0 < dl := by
     have := Nat.min_le_right ys.length dl
     have h1 : Nat.min ys.length dl ≤ dl := this
     omega
    omega
   have hb := hba gb o ha hne
   subst hb
   have hyl : (ys.take dl).length = Nat.min ys.length dl := by rw [List.length_take]; exact Nat.min_comm _ _
   have hnl : (gL r2.es (ys.take dl) 0).length = Nat.min ys.length dl * i.size := by rw [uZ, hisz, hsz, hyl]
   have abb : lo + (ys.take dl).length ≤ xs.length := by simp only [List.length_take]; omega
   have hfit : o + lo * sz + (gL r2.es (ys.take dl) 0).length ≤ cur.size := by
    rw [uZ, hsz, Nat.add_assoc, ← Nat.add_mul]
    rw [hsz] at h4
    exact Nat.le_trans (Nat.add_le_add_left (Nat.mul_le_mul_right _ (by omega)) _) h4
   have hrun := iP (P := P) (adW (P := P) (w := w) t ty e i hut hi' gb (o + lo * sz) dl cd cur hgb r2.a ys.length r2.cap (gL r2.es (ys.take dl) 0) hnl (fun j v hv => hnews j v (YE hv)) (Nf _ _ _) hfit)
   unfold Oper.wp
   rw [hcs, hx.eval ho rfl, hy.eval ho rfl]
   rw [show builtin .copy #[t, t] ty cs #[.slice (some ⟨gb, o + lo * sz, none⟩) dl cd, .slice r2.a ys.length r2.cap] = (Builtin.copy_ #[t, t] ty #[.slice (some ⟨gb, o + lo * sz, none⟩) dl cd, .slice r2.a ys.length r2.cap] >>= fun v => pure (Next.value v)) from rfl, hrun]
   generalize hN : gL r2.es (ys.take dl) 0 = N at *
   have hfr : Frame (ah e r xs).fp w (w.setRow gb (cur.toList.take (o + lo * sz) ++ N ++ cur.toList.drop (o + lo * sz + N.length)).toArray) := by
    refine ⟨rfl, rfl, rfl, by simp [World.setRow], fun k _ hn => ?_⟩
    have hne : gb ≠ k := fun h => hn ⟨_, ha, h.symm⟩
    simp [World.setRow, Array.getElem?_modify, hne]
   refine hs _ _ k _ _ ⟨S, hms.upd hu hfr (fun _ h => h) (fun _ h => .inl h) (fun k hk => Nat.lt_of_lt_of_le (hms.lt k hk) hfr.size) ⟨by rw [hzl]; exact hφ.1, .inr ⟨gb, o, _, ha, setRow_heap w gb cur _ e (0, 0) hgb, by rw [hzl]; exact h3, ?_, ?_⟩⟩ ?_⟩ (ho.put (by simpa [Nat.blt_eq] using hd) rfl)
   ·have hc : (cur.toList.take (o + lo * sz) ++ N ++ cur.toList.drop (o + lo * sz + N.length)).toArray.size = cur.size := by
     simp only [List.size_toArray, List.length_append, List.length_take, List.length_drop, Array.length_toList]
     omega
    rw [hc]; exact h4
   ·intro q u Ak
    refine ⟨fun j v hv => ?_, hfl _ _ _ _⟩
    have hj : j < aj.n α := by have := (List.getElem?_eq_some_iff.1 hv).1; rwa [aj.len] at this
    simp only [List.getElem?_toArray]
    have hpre : (cur.toList.take (o + lo * sz)).length = o + lo * sz := by
     have hcl : cur.toList.length = cur.size := Array.length_toList
     rw [List.length_take, hcl]; omega
    have TT : N.length = (ys.take dl).length * aj.n α := by rw [← hN, uZ]
    rw [OZ, Yz abb] at Ak
    have mul_lt : ∀ a b : Nat, a < b → a * aj.n α + j < b * aj.n α := fun a b hab => by
     have : a * aj.n α + aj.n α ≤ b * aj.n α := by rw [← Nat.succ_mul]; exact Nat.mul_le_mul_right _ hab
     omega
    rw [← hsz] at hpre ⊢
    by_cases a1 : q < lo
    ·rw [if_pos a1] at Ak
     have := mul_lt q lo a1
     rw [List.append_assoc, List.getElem?_append_left (by rw [hpre]; omega), List.getElem?_take, if_pos (by omega)]
     have := (h5 q u Ak).1 j v hv
     simpa using this
    ·rw [if_neg a1] at Ak
     have hle : lo * aj.n α ≤ q * aj.n α := Nat.mul_le_mul_right _ (by omega)
     by_cases a2 : q < lo + (ys.take dl).length
     ·rw [if_pos a2] at Ak
      have e1 : o + (q * aj.n α + j) = (o + lo * aj.n α) + ((q - lo) * aj.n α + j) := by rw [Nat.sub_mul]; omega
      have hlt2 : (q - lo) * aj.n α + j < N.length := by rw [TT]; exact mul_lt _ _ (by omega)
      rw [e1, List.append_assoc, List.getElem?_append_right (by rw [hpre]; omega), hpre, Nat.add_sub_cancel_left, List.getElem?_append_left hlt2, ← hN, zX r2.es _ 0 _ j u Ak hj, Nat.zero_add, hen _ (r.es q)]
      exact hv
     ·rw [if_neg a2] at Ak
      have hle2 : (lo + (ys.take dl).length) * aj.n α ≤ q * aj.n α := Nat.mul_le_mul_right _ (by omega)
      rw [Nat.add_mul, ← TT] at hle2
      rw [List.append_assoc, List.getElem?_append_right (by rw [hpre]; omega), hpre, List.getElem?_append_right (by omega), List.getElem?_drop]
      rw [show o + lo * aj.n α + N.length + (o + (q * aj.n α + j) - (o + lo * aj.n α) - N.length) = o + (q * aj.n α + j) by omega]
      have := (h5 q u Ak).1 j v hv
      simpa using this
   ·rintro kk ⟨p, hp, rfl⟩
    have h := hin p.block ⟨p, hp, rfl⟩
    refine ⟨.inl ⟨p, hp, rfl⟩, ?_, h.2.1⟩
    have := h.1
    simpa [World.setRow] using this
theorem Mg {f d : Nat} {x : Operand} {xs : List Operand} {vs cap : List Value} {v : Value} {ts : Array TypeId} {ty : TypeId} {pos : String} {aW : Array Edge} {gd : Option (Nat × Bool)}
  (hc : ∀ w, Mem κ H w → Calls P f (vs ++ cap).toArray w (dQ w v)) (k : C ((d, .v v) :: ρ) H)
  (hx : Gets ρ true x (.func (.func f) #[] cap.toArray) := by exact gT)
  (ha : iX ρ true xs vs := by repeat (first | exact iX.nil | (apply iX.cons; first | exact .plain rfl | exact .cond rfl id | exact .cond rfl gl)))
  (hd : Nat.blt d n = true := by rfl) (hf : callable P f = true := by kernel_rfl) :
  iD P n κ ⟨some d, .call { callee := .value x, args := xs.toArray, argTypes := ts }, ty, pos, aW, gd⟩ ρ H C := by
 intro K Q hs w a hm ho
 unfold Oper.wp
 rw [adY (hx.eval ho rfl) (ha.eval ho rfl) hf]
 refine (hc w hm).mono ?_
 rintro e w' ⟨rfl, hb⟩
 exact hs _ _ k w' _ (hm.KH hb) (ho.put (by simpa [Nat.blt_eq] using hd) rfl)
end
end Go.Dc
namespace Go.Dc
open Go.RowKit aj
theorem M5 {b : Bool} (h : (!b) = false) : b = true := by cases b with | true => rfl | false => cases h
structure Xm (α : Type) where
 l : List α
 deriving DecidableEq, Inhabited
instance {α : Type} [aj α] : aj (Xm α) where
 R := SR (R α)
 n := 1
 bytes := 8
 enc := fun r _ => [.map (some (sb r.a))]
 ok := fun _ _ _ _ => True
 npos := Nat.one_pos
 bpos := by omega
 len := fun _ _ => rfl
 one := fun _ _ v hv => by simp at hv; subst hv; rfl
 mono := fun _ _ _ _ _ _ h => h
 dep := fun _ _ _ _ _ _ h => h
class Xz (α : Type) (β : outParam Type) [aj α] [aj β] where
 ks : List PK
 acs : α → List Value
 val : α → List β
 rep : R α → SR (R β)
 fits : ∀ x, fit ks (acs x) = true
 okv : ∀ S w r x, ok S w r x → qg S w (rep r) (val x)
section
variable {α β : Type} [aj α] [aj β] [Xz α β]
def MR.add (r : SR (R α)) (i : Nat) (q : R α) : SR (R α) := ⟨r.a, r.cap, fun j => if j = i then q else r.es j⟩
variable {P : Program} {n : Nat} {κ : Ctx} {ρ : Env} {H : List Chunk} {g : Bool} {C : Env → List Chunk → Prop}
end
/-! ### Some cells of a block that is written meanwhile -/
def AA (b : Nat) (ps : List (Nat × Value)) : Chunk where
 fp := fun k => k = b
 φ := fun _ w => ∀ p ∈ ps, w.cell? ⟨b, p.1, none⟩ = some p.2
 dep := fun S w w' h hw p hp => by rw [World.cell?_of_block (w := w) (h b (.inl rfl))]; exact hw p hp
 mono := fun _ _ _ _ h => h
section
variable {P : Program} {n : Nat} {κ : Ctx} {ρ : Env} {H : List Chunk} {g : Bool}
theorem Mem.AA {T : TypeId} {b : Nat} {l : List Value} {w : World} {H' : List Chunk} (ps : List (Nat × Value)) (hm : Mem κ H w) (hu : eD H (own b T l) (Dc.AA b ps) H')
  (h : ∀ p ∈ ps, l[p.1]? = some p.2) : Mem κ H' w := by
 obtain ⟨S, hs⟩ := hm
 refine ⟨S, hs.upd (S' := S) hu (Frame.refl _ _) (fun _ h => h) (fun _ h => .inl h) hs.lt (fun p hp => ?_) (fun k hk => ?_)⟩
 ·have hb : w.heap[b]? = some (.cells l.toArray T (0, 0)) := hu.has.φ hs
  simp [World.cell?, hb, h p hp]
 ·have hk : k = b := hk
  subst hk
  exact ⟨.inl rfl, ((hs.all _ hu.has.mem).2 _ rfl).1, ((hs.all _ hu.has.mem).2 _ rfl).2.1⟩
theorem Tn {x : Operand} {t b o : Nat} {v : Value} {ps : List (Nat × Value)} (hh : Has H (Dc.AA b ps)) (hv : (o, v) ∈ ps)
  (hx : Gets ρ g x (.pointer (some ⟨b, o, none⟩)) := by exact gT) (ht : lY P t = true := by kernel_rfl) : Ev P n κ H ρ g (.load t x) v :=
 xG hx ht fun _ _ hm => let ⟨_, hs⟩ := hm; hh.φ hs _ hv
theorem YB {Q : Exit → Act → World → Prop} {id : Nat} {ops : Array Oper} (Hs : List Chunk) (himp : ∀ w, Mem κ H w → Mem κ Hs w)
  (h : AW P n κ ops (fun a w => Q .normal a w) Hs ops.size (Array.replicate ops.size false) ρ H) (hm : P.follows .mixedOrders = true := by kernel_rfl) :
  CW P n κ (.region id ops true) Q ρ H := by
 intro w a hmm ho
 have hm' := hmm.drawn (w.drawn + 1)
 have := wp_region_held (id := id) (P := P) (Q := fun e a w => e = .normal ∧ Q .normal a w) (S := fun w => Mem κ Hs w) hm (h _ a hm' (himp _ hm') ho)
 exact wp_mono this (fun e a w hq => by obtain ⟨rfl, hk⟩ := hq; exact hk)
end
end Go.Dc
namespace Go.Dc
open Go.RowKit
inductive Wd : Fence → Prop
 | plain : Wd Fence.wide
 | round (l : Nat) : Wd (Fence.wide.inRound l)
theorem Wd.fn {F : Fence} (h : Wd F) (f : FuncId) : F.fn f := by cases h <;> trivial
theorem Wd.depth {F : Fence} (h : Wd F) : F.depth.isSome = true → False := by cases h <;> (intro h; cases h)
theorem Wd.calls {F : Fence} {n : Nat} {P : Program} {f : FuncId} {args : Array Value} {w : World} {R : Ending → World → Prop} (h : Wd F) (hc : Calls P f args w R) : CallsIn F n P f args w R := by
 cases h with
 | plain => exact callsIn_wide.2 hc
 | round l =>
  have h1 : CallsIn Fence.wide n P f args w R := callsIn_wide.2 hc
  exact h1
theorem Wd.rows {F : Fence} {n : Nat} {P : Program} {row : String} {args : Array Value} {w : World} {R : Value → World → Prop} (h : Wd F) (hc : Rows P row args w R) : RowsIn F n P row args w R := by
 cases h with
 | plain => exact fun c cs _ => let ⟨v, w', r, s⟩ := hc c cs; ⟨v, w', r, stepsIn_wide.2 s⟩
 | round l => exact fun c cs _ => let ⟨v, w', r, s⟩ := hc c cs; ⟨v, w', r, stepsIn_wide.2 s⟩
def Py : Op → Bool
 | .defer _ => false
 | _ => true
theorem acY {o : Op} (h : Py o = true) : ∀ c, o ≠ .defer c := fun c e => by subst e; cases h
theorem aeA {F : Fence} {N : Nat} {P : Program} {o : Oper} {a : Act} {w : World} {K : Act → World → Prop} {Q : Exit → Act → World → Prop} (hF : Wd F) (hnd : Py o.op = true) (h : o.wp P a w K Q) : o.wpIn F N P a w K Q := by
 refine ⟨fun f _ => hF.fn f, ?_⟩
 rw [Oper.semAt_eq _ _ _ (acY hnd)]
 unfold Oper.wp at h
 generalize (execOp a.eval o).run P w = r at h
 cases r with
 | ok x w' =>
  cases x with
  | value v => exact h
  | skip => exact h
  | defer d => exact h
  | enter f args => exact ⟨fun hd => (hF.depth hd).elim, hF.calls h⟩
  | row row args => exact ⟨fun hd => (hF.depth hd).elim, hF.rows h⟩
  | round l f t a b => exact h.elim
  | _ => exact h
 | halt x w' => cases x <;> exact h
section
variable {F : Fence} {P : Program} {n : Nat} {κ : Ctx} {ops : Array Oper} {Q : Exit → Act → World → Prop} {rest : List Oper} {ρ : Env} {H : List Chunk}
/-! In whatever order, under a fence: every order is walked. -/
def Xl (F : Fence) (P : Program) (n : Nat) (κ : Ctx) (ops : Array Oper) (Q : Exit → Act → World → Prop) (fuel : Nat) (listed : Array Bool) (ρ : Env) (H : List Chunk) : Prop :=
 ∀ w a, Mem κ H w → Ok n ρ a → wpAnyIn F 0 P .any ops Q fuel listed a w
def RQ (F : Fence) (P : Program) (n : Nat) (κ : Ctx) (ops : Array Oper) (Q : Exit → Act → World → Prop) (fuel : Nat) (listed : Array Bool) (ρ : Env) (H : List Chunk) (i : Nat) : Prop :=
 ∃ o, ops[i]? = some o ∧ o.guard = none ∧ Py o.op = true ∧ iD P n κ o ρ H (Xl F P n κ ops Q fuel (listed.setIfInBounds i true))
theorem RQ.wpOp {fuel : Nat} {listed : Array Bool} {i : Nat} (hF : Wd F) (h : RQ F P n κ ops Q fuel listed ρ H i) {w : World} {a : Act} (hm : Mem κ H w) (ho : Ok n ρ a) :
  wpOpIn F 0 P ops Q i (wpAnyIn F 0 P .any ops Q fuel (listed.setIfInBounds i true)) a w := by
 obtain ⟨o, hi, hg, hnd, hs⟩ := h
 unfold wpOpIn
 simp only [hi, Region.wanted, hg, if_true]
 exact aeA hF hnd (hs _ _ (fun _ _ hc w a m o => hc w a m o) w a hm ho)
end
/-! ### The loop's record -/
def acJ (L D : Nat) (n : Nat) (ρ : Env) (ps : Array Tmp) (assign body : Code) (st : LoopState) (pend : Option Code) : Chunk where
 fp := fun k => k = L ∨ k = D
 φ := fun _ w => L ≠ D ∧ (∃ a fn, Ok n ρ a ∧ w.heap[L]? = some (.loop { state := st, pending := pend, fn := fn, tmps := a.tmps, params := ps, assign := assign, body := body, defers := D })) ∧ w.heap[D]? = some (.deferred (some []))
 dep := fun S w w' h hw => by
  obtain ⟨h0, ⟨a, fn, h1, h2⟩, h3⟩ := hw
  exact ⟨h0, ⟨a, fn, h1, by rw [h L (.inl (.inl rfl))]; exact h2⟩, by rw [h D (.inl (.inr rfl))]; exact h3⟩
 mono := fun _ _ _ _ h => h
def Pw (D : Nat) : Chunk where
 fp := fun k => k = D
 φ := fun _ w => w.heap[D]? = some (.deferred (some []))
 dep := fun S w w' h hw => by rw [h D (.inl rfl)]; exact hw
 mono := fun _ _ _ _ h => h
section
variable {P : Program} {n : Nat} {κ : Ctx} {ρ : Env} {H : List Chunk} {L D nL : Nat} {ρL : Env} {ps : Array Tmp} {assign body : Code}
/-! ### The statement -/
theorem Mem.Pw {st : LoopState} {pe : Option Code} {w : World} (hm : Mem κ (acJ L D nL ρL ps assign body st pe :: H) w) : Mem κ (Dc.Pw D :: H) w := by
 obtain ⟨S, hs⟩ := hm
 have hall := hs.all _ List.mem_cons_self
 refine ⟨S, hs.upd (S' := S) .head (Frame.refl _ _) (fun _ h => h) (fun _ h => .inl h) hs.lt hall.1.2.2 (fun k hk => ?_)⟩
 have hk : k = D := hk
 subst hk
 exact ⟨.inl (.inr rfl), (hall.2 _ (.inr rfl)).1, (hall.2 _ (.inr rfl)).2.1⟩
def mark (D : Nat) : List Deferred := [{ target := .collected D, args := #[] }]
/-! ### Behind the statement: the mark lies among the deferred calls -/
variable {ops : Array Oper} {Q : Exit → Act → World → Prop} {l : List Oper} {ds : List Deferred}
theorem Mem.undef {w : World} (hm : Mem κ (Dc.Pw D :: H) w) : Mem κ H (w.putObj D (.deferred none)) := by
 obtain ⟨S, hs⟩ := hm
 let e : Chunk := ⟨fun _ => False, fun _ _ => True, fun _ _ _ _ _ => trivial, fun _ _ _ _ _ => trivial⟩
 have := hs.upd (c' := e) (S' := S) (w' := w.putObj D (.deferred none)) .head ⟨rfl, rfl, rfl, by simp [World.putObj], fun k _ hne => World.putObj_heap_other (fun e => hne e)⟩ (fun _ h => h) (fun _ h => .inl h) (fun k hk => by simpa [World.putObj] using hs.lt k hk) trivial (fun k hk => hk.elim)
 exact ⟨S, this.sub' (List.sublist_cons_self _ _)⟩
end
end Go.Dc
namespace Go.Dc
section
variable {P : Program} {n : Nat} {κ : Ctx} {ρ : Env} {H : List Chunk} {g : Bool}
end
end Go.Dc
namespace Go.Dc
open Go.RowKit aj
def u8 (c : Int) : UInt8 := UInt8.ofNat c.toNat
section
variable {P : Program}
end
section
variable {P : Program} {n : Nat} {κ : Ctx} {ρ : Env} {H : List Chunk} {C : Env → List Chunk → Prop} {g : Bool}
end
/-! ### Package-level variables -/
/-! ### A range over a string -/
section
variable {P : Program} {n : Nat} {κ : Ctx} {ρ : Env} {H : List Chunk} {C : Env → List Chunk → Prop} {g : Bool}
end
end Go.Dc
namespace Go.Dc
open Go.RowKit aj
section
variable {P : Program} {n : Nat} {κ : Ctx} {ρ : Env} {H : List Chunk} {g : Bool}
def R7 (P : Program) (t m : Nat) : Bool := match P.underlying t with
 | some (.array k e) => k == m && (match P.info? e with | some i => i.size == 1 | none => false) && lY P e
 | _ => false
/-! Two or three operations that may come up, before the region's last. -/
def JQ (P : Program) (n : Nat) (κ : Ctx) (ops : Array Oper) (K : Act → World → Prop) (Hs : List Chunk) (z fuel : Nat) (listed : Array Bool) (ρ : Env) (H : List Chunk) (i : Nat) : Prop :=
 ∃ o, ops[i]? = some o ∧ o.guard = none ∧ iD P n κ o ρ H (fun ρ' H' => (∀ w, Mem κ H' w → Mem κ Hs w) ∧ AZ P n κ ops K Hs z fuel (listed.setIfInBounds i true) ρ' H')
section
variable {ops : Array Oper} {K : Act → World → Prop} {Hs : List Chunk} {z fuel : Nat} {listed : Array Bool}
theorem JQ.wpOp {i : Nat} (h : JQ P n κ ops K Hs z fuel listed ρ H i) {w : World} {a : Act} (hm : Mem κ H w) (ho : Ok n ρ a) :
  Go.wpOp P ops (fun e a w => e = .normal ∧ K a w) i (fun a' w' => (i ≠ z → Mem κ Hs w') ∧ tX P .any ops (fun e a w => e = .normal ∧ K a w) (fun w => Mem κ Hs w) z fuel (listed.setIfInBounds i true) a' w') a w := by
 obtain ⟨o, hi, hg, hs⟩ := h
 unfold Go.wpOp
 simp only [hi, Region.wanted, hg, if_true]
 refine .inl (hs _ _ ?_ w a hm ho)
 intro ρ' H' ⟨c1, c2⟩ w' a' hm' ho'
 exact ⟨fun _ => c1 w' hm', c2 w' a' hm' ho'⟩
theorem JY (i j : Nat) (h1 : JQ P n κ ops K Hs z fuel listed ρ H i) (h2 : JQ P n κ ops K Hs z fuel listed ρ H j)
  (hr : Region.ready .any ops listed = [i, j] := by kernel_rfl) : AZ P n κ ops K Hs z (fuel + 1) listed ρ H := by
 intro w a hm ho
 refine ⟨fun h => (by rw [hr] at h; cases h), fun k hk => ?_⟩
 rw [hr] at hk
 simp at hk
 rcases hk with rfl | rfl
 ·exact h1.wpOp hm ho
 ·exact h2.wpOp hm ho
end
variable {C : Env → List Chunk → Prop}
end
end Go.Dc
namespace Go.Dc
open Go.RowKit aj
section
variable {P : Program} {n : Nat} {κ : Ctx} {ρ : Env} {H : List Chunk} {g : Bool}
theorem YF {x y : Operand} {t m : Nat} {k : IntKind} {i : Int} {xs : List Nat} {v : Nat} (l : List Value) (hi : g = true → idx xs i = some v) (hl : l = xs.map (fun s => .func (.func s) #[] #[]) := by rfl) (hm : xs.length = m := by rfl)
  (hx : Gets ρ g x (.agg l.toArray) := by exact gT) (hy : Gets ρ g y (.int k i) := by exact gT)
  (ht : R7 P t m = true := by kernel_rfl) : Ev P n κ H ρ g (.index t x y) (.func (.func v) #[] #[]) := by
 intro w a dst ty pos aW gd hm' ho hg
 have e1 := hx.eval ho hg
 have e2 := hy.eval ho hg
 obtain ⟨h0, hlt, hv⟩ := kZ (hi hg)
 unfold R7 at ht
 split at ht
 ·rename_i kk e hu
  simp only [Bool.and_eq_true, beq_iff_eq] at ht
  obtain ⟨⟨h1, h2⟩, h3⟩ := ht
  cases hti : P.info? e with
  | none => rw [hti] at h2; cases h2
  | some ti =>
   rw [hti] at h2
   simp at h2
   show (Instr.index t (a.eval x) (a.eval y) >>= fun v => pure (Next.value v)).run P w = _
   rw [e1, e2]
   refine iP ?_
   unfold Instr.index
   show (underlying t >>= _).run P w = _
   rw [run_bind_ok (jQ hu w)]
   have hb : 0 ≤ i ∧ i < (kk : Int) := by rw [h1, ← hm]; exact ⟨h0, hlt⟩
   simp only [hb, and_self, if_true]
   rw [run_bind_ok (qZ hti w), h2, Nat.mul_one]
   refine CS h3 ?_
   subst hl
   simp [hv]
 ·cases ht
theorem Mem.YO {b T : Nat} {l : List Value} {w : World} {H' : List Chunk} (hm : Mem κ H w) (hu : eD H (own b T l) (Dc.jV b T l) H' := by repeat (first | exact eD.head | apply eD.tail)) : Mem κ H' w := by
 obtain ⟨S, hs⟩ := hm
 have h0 := hs.all _ hu.has.mem
 exact ⟨fun k => S k ∨ (own b T l).fp k, hs.upd hu (Frame.refl _ w) (fun _ h => .inl h) (fun k hk => hk.elim .inl (fun h => .inr (.inl h))) (fun k hk => hk.elim (hs.lt k) (fun h => (h0.2 k h).1)) ⟨.inr rfl, h0.1⟩ (fun k hk => hk.elim)⟩
/-! ### Regions of many orders: every set of what has come up is one lemma -/
theorem Rf {md : Region.Mode} {ops : Array Oper} {Q : Exit → Act → World → Prop} {S S' : World → Prop} (hS : ∀ w, S' w → S w) :
  ∀ (fuel : Nat) (listed : Array Bool) (a : Act) (w : World), wpAnyH P md ops Q S' fuel listed a w → wpAnyH P md ops Q S fuel listed a w
 | 0, _, _, _, h => h
 | fuel + 1, _, _, _, h => ⟨h.1, fun i hi => wpOp_mono (fun a' w' h' => ⟨hS _ h'.1, Rf hS fuel _ a' w' h'.2⟩) (h.2 i hi)⟩
variable {ops : Array Oper} {K : Act → World → Prop} {Hs : List Chunk} {fuel : Nat} {listed : Array Bool}
theorem qj (qG : List Chunk) (h1 : ∀ w, Mem κ H w → Mem κ qG w) (h2 : ∀ w, Mem κ qG w → Mem κ Hs w) (k : AW P n κ ops K qG fuel listed ρ H) : AW P n κ ops K Hs fuel listed ρ H :=
 fun w a hm _ ho => Rf h2 _ _ _ _ (k w a hm (h1 w hm) ho)
theorem X4 {ρ0 : Env} (h : ∀ G : Nat → Array Bool → Env → List Chunk → List Chunk → Prop, (∀ f l ad H Hs, G f l ad H Hs = AW P n κ ops K Hs f l (ad ++ ρ0) H) → G fuel listed [] H Hs) : AW P n κ ops K Hs fuel listed ρ0 H :=
 h (fun f l ad H Hs => AW P n κ ops K Hs f l (ad ++ ρ0) H) (fun _ _ _ _ _ => rfl)
theorem UU {ad ρ0 : Env} {t : Nat} : look (ad ++ ρ0) t = match look ad t with | some e => some e | none => look ρ0 t := by
 induction ad with
 | nil => rfl
 | cons p r ih =>
  simp only [List.cons_append, look]
  split
  ·rfl
  ·exact ih
theorem UW {ad : Env} {t : Nat} (h : ∀ p ∈ ad, p.1 ≠ t) : look ad t = none := by
 induction ad with
 | nil => rfl
 | cons p r ih =>
  simp only [look]
  split
  ·rename_i hb; exact absurd (Nat.eq_of_beq_eq_true hb) (h p List.mem_cons_self)
  ·exact ih fun q hq => h q (List.mem_cons_of_mem _ hq)
theorem UY {ad pG ρ0 : Env} (h1 : ∀ p ∈ ad, look pG p.1 = look ad p.1) (h2 : ∀ p ∈ pG, look pG p.1 = look ad p.1) : ∀ t, look (pG ++ ρ0) t = look (ad ++ ρ0) t := by
 intro t
 have : look pG t = look ad t := by
  by_cases e : ∃ p ∈ ad, p.1 = t
  ·obtain ⟨p, hp, rfl⟩ := e; exact h1 p hp
  ·by_cases e' : ∃ p ∈ pG, p.1 = t
   ·obtain ⟨p, hp, rfl⟩ := e'; exact h2 p hp
   ·rw [UW (fun p hp hh => e ⟨p, hp, hh⟩), UW (fun p hp hh => e' ⟨p, hp, hh⟩)]
 rw [UU, UU, this]
theorem X5 {ρ0 : Env} {G : Nat → Array Bool → Env → List Chunk → List Chunk → Prop} (hG : ∀ f l ad H Hs, G f l ad H Hs = AW P n κ ops K Hs f l (ad ++ ρ0) H) {ad pG : Env} {l' : Array Bool} {H' qG : List Chunk}
  (h : G fuel l' pG H' qG) (hl : listed = l') (hρ : ∀ t, look (pG ++ ρ0) t = look (ad ++ ρ0) t) (hH : ∀ w, Mem κ H w → Mem κ H' w) (hs : ∀ w, Mem κ H w → Mem κ qG w) (hss : ∀ w, Mem κ qG w → Mem κ Hs w) :
  AW P n κ ops K Hs fuel listed (ad ++ ρ0) H := by
 subst hl
 rw [hG] at h
 intro w a hm _ ho
 exact Rf hss _ _ _ _ (h w a (hH w hm) (hs w hm) ⟨ho.size, ho.pW, fun t e he => ho.get t e (by rw [← hρ t]; exact he)⟩)
def zN (Q : Nat × EV → Prop) : Env → Prop
 | [] => True
 | p :: r => Q p ∧ zN Q r
theorem zN.mem {Q : Nat × EV → Prop} : ∀ {l : Env}, zN Q l → ∀ p ∈ l, Q p
 | _ :: _, h, p, hp => (List.mem_cons.1 hp).elim (fun e => e ▸ h.1) (fun hp => zN.mem h.2 p hp)
theorem gF {ρ0 : Env} {G : Nat → Array Bool → Env → List Chunk → List Chunk → Prop} (k : Nat) (hG : ∀ f l ad H Hs, G f l ad H Hs = AW P n κ ops K Hs f l (ad ++ ρ0) H) {pG : Env} {l' : Array Bool} {H' qG : List Chunk}
  (h : G fuel l' pG H' qG) (hk : ρ.drop k = ρ0 := by rfl) (hl : listed = l' := by rfl)
  (h1 : zN (fun p => look pG p.1 = look (ρ.take k) p.1) (ρ.take k) := by repeat (first | exact trivial | refine And.intro rfl ?_))
  (h2 : zN (fun p => look pG p.1 = look (ρ.take k) p.1) pG := by repeat (first | exact trivial | refine And.intro rfl ?_))
  (hH : ∀ w, Mem κ H w → Mem κ H' w := by intro w hm; exact hm.oz) (hs : ∀ w, Mem κ H w → Mem κ qG w := by intro w hm; exact hm.oz) (hss : ∀ w, Mem κ qG w → Mem κ Hs w := by intro w hm; exact hm.oz) :
  AW P n κ ops K Hs fuel listed ρ H := by
 have e : ρ = ρ.take k ++ ρ0 := by rw [← hk]; exact (List.take_append_drop k ρ).symm
 rw [e]
 exact X5 hG h hl (UY h1.mem h2.mem) hH hs hss
end
end Go.Dc
namespace Go.Dc
open Go.RowKit aj
def SR.put {ρ : Type} (r : SR ρ) (i : Nat) (q : ρ) : SR ρ := ⟨r.a, r.cap, fun j => if j = i then q else r.es j⟩
def hrow {α : Type} [aj α] (on : Nat → Prop) (e : TypeId) (r : SR (R α)) (xs : List α) : Chunk where
 fp := fun k => ∃ p, r.a = some p ∧ k = p.block
 φ := fun S w => xs.length * aj.bytes α ≤ 140737488355328 ∧ ((r.a = none ∧ xs = [] ∧ r.cap = 0) ∨
  ∃ g o cur, r.a = some ⟨g, o, none⟩ ∧ w.heap[g]? = some (.cells cur e (0, 0)) ∧ xs.length ≤ r.cap ∧ o + r.cap * n α ≤ cur.size ∧
   ∀ i x, xs[i]? = some x → (∀ j v, (enc (r.es i) x)[j]? = some v → cur[o + (i * n α + j)]? = some v) ∧ (on i → ok S w (r.es i) x))
 dep := fun S w w' h hw => by
  refine ⟨hw.1, ?_⟩
  rcases hw.2 with h2 | ⟨g, o, cur, ha, hg, h3, h4, h5⟩
  ·exact .inl h2
  ·refine .inr ⟨g, o, cur, ha, ?_, h3, h4, fun i x hx => ⟨(h5 i x hx).1, fun ho => aj.dep S w w' _ _ (fun k hk => h k (.inr hk)) ((h5 i x hx).2 ho)⟩⟩
   rw [h g (.inl ⟨_, ha, rfl⟩)]
   exact hg
 mono := fun S S' w h hw => by
  refine ⟨hw.1, ?_⟩
  rcases hw.2 with h2 | ⟨g, o, cur, ha, hg, h3, h4, h5⟩
  ·exact .inl h2
  ·exact .inr ⟨g, o, cur, ha, hg, h3, h4, fun i x hx => ⟨(h5 i x hx).1, fun ho => aj.mono S S' w _ _ h ((h5 i x hx).2 ho)⟩⟩
section
variable {P : Program} {n : Nat} {κ : Ctx} {ρ : Env} {H : List Chunk} {g : Bool} {C : Env → List Chunk → Prop}
theorem Mem.toH {α : Type} [aj α] {e : TypeId} {r : SR (R α)} {xs : List α} {w : World} {H' : List Chunk} (hm : Mem κ H w)
  (hu : eD H (ah e r xs) (hrow (fun _ => True) e r xs) H' := by repeat (first | exact eD.head | apply eD.tail)) : Mem κ H' w := by
 obtain ⟨S, hs⟩ := hm
 have h0 := hs.all _ hu.has.mem
 refine ⟨S, hs.upd hu (Frame.refl _ w) (fun _ h => h) (fun _ h => .inl h) hs.lt ⟨h0.1.1, ?_⟩ (fun k hk => ⟨.inl hk, (h0.2 k hk).1, (h0.2 k hk).2.1⟩)⟩
 rcases h0.1.2 with h2 | ⟨g, o, cur, ha, hg, h3, h4, h5⟩
 ·exact .inl h2
 ·exact .inr ⟨g, o, cur, ha, hg, h3, h4, fun i x hx => ⟨(h5 i x hx).1, fun _ => (h5 i x hx).2⟩⟩
theorem Mem.qA {α : Type} [aj α] {on : Nat → Prop} {e : TypeId} {r : SR (R α)} {xs : List α} {i : Int} {x x' : α} {w : World} {H' : List Chunk} (hm : Mem κ H w) (hon : ∀ k, k ≠ i.toNat → on k) (hi : idx xs i = some x)
  (henc : enc (r.es i.toNat) x' = enc (r.es i.toNat) x) (hk : Sk κ H (r.es i.toNat) x')
  (hu : eD H (hrow on e r xs) (ah e r (xs.set i.toNat x')) H' := by repeat (first | exact eD.head | apply eD.tail)) : Mem κ H' w := by
 obtain ⟨S, hs⟩ := hm
 have h0 := hs.all _ hu.has.mem
 obtain ⟨hi0, hilt, hget⟩ := kZ hi
 refine ⟨S, hs.upd hu (Frame.refl _ w) (fun _ h => h) (fun _ h => .inl h) hs.lt ⟨by rw [List.length_set]; exact h0.1.1, ?_⟩ (fun k hk => ⟨.inl hk, (h0.2 k hk).1, (h0.2 k hk).2.1⟩)⟩
 rcases h0.1.2 with ⟨_, h2, _⟩ | ⟨g, o, cur, ha, hg, h3, h4, h5⟩
 ·subst h2; simp at hilt; omega
 ·refine .inr ⟨g, o, cur, ha, hg, by rw [List.length_set]; exact h3, h4, fun k z hz => ?_⟩
  by_cases hki : k = i.toNat
  ·subst hki
   rw [List.getElem?_set_self (by omega)] at hz
   cases hz
   refine ⟨fun j v hv => ?_, hk S w hs⟩
   rw [henc] at hv
   exact (h5 _ x hget).1 j v hv
  ·rw [List.getElem?_set_ne (Ne.symm hki)] at hz
   exact ⟨(h5 k z hz).1, (h5 k z hz).2 (hon k hki)⟩
theorem Df {α : Type} [aj α] {x y : Operand} {t e : Nat} {ty : TypeId} {pos : String} {aW : Array Edge} {gd : Option (Nat × Bool)} {on : Nat → Prop} {r : SR (R α)} {xs : List α} {i : Int} {u : α} {o m : Nat} {v : Value} {vs : List Value} {H' : List Chunk}
  (j : Nat) (u' : α) (q : R α) (on' : Nat → Prop) (hon : ∀ k, on' k → on k ∧ k ≠ i.toNat) (hi : idx xs i = some u) (henc : enc q u' = qz (enc (r.es i.toNat) u) j vs)
  (hu : eD H (hrow on e r xs) (hrow on' e (r.put i.toNat q) (xs.set i.toNat u')) H') (k : C ρ H')
  (hx : Gets ρ true x (.pointer (some ⟨sb r.a, o, none⟩)) := by exact gT) (hy : Gets ρ true y v := by exact gT)
  (hvs : v.cells = vs.toArray := by rfl) (hlen : vs.length = m := by rfl) (h10 : vs.all Value.oneCell' = true := by rfl)
  (ho' : o = so r.a + (i.toNat * aj.n α + j) := by first | rfl | (show _ = _ + (_ * (_ : Nat) + _); omega)) (hj0 : Nat.ble (j + m) (aj.n α) = true := by rfl)
  (ht : P.cellsOf t = m := by kernel_rfl) (hti : (P.info? t).isSome = true := by kernel_rfl) : iD P n κ ⟨none, .store t x y, ty, pos, aW, gd⟩ ρ H C := by
 have hj : j + m ≤ aj.n α := by simpa [Nat.ble_eq] using hj0
 intro K Q hs w a hm ho
 obtain ⟨hi0, hilt, hget⟩ := kZ hi
 obtain ⟨S, hms⟩ := hm
 have hφ := hu.has.φ hms
 have hin := (hms.all _ hu.has.mem).2
 have e1 := hx.eval ho rfl
 have e2 := hy.eval ho rfl
 rcases hφ.2 with ⟨_, h0, _⟩ | ⟨gb, off, cur, ha, hgb, h3, h4, h5⟩
 ·subst h0; simp at hilt; omega
 ·rw [ha] at e1
  have hoff : o = off + (i.toNat * aj.n α + j) := by rw [ho', ha]; rfl
  have Nc : a.eval x = .pointer (some ⟨gb, o, none⟩) := e1
  have hfit : o + 0 + vs.length ≤ cur.size := by
   have : i.toNat * aj.n α + aj.n α ≤ r.cap * aj.n α := by rw [← Nat.succ_mul]; exact Nat.mul_le_mul_right _ (by omega)
   omega
  have hst := run_storeCells_at P gb o e vs 0 cur w hgb hfit (List.all_eq_true.1 h10)
  simp only [Nat.add_zero] at hst
  cases vw : P.info? t with
  | none => rw [vw] at hti; cases hti
  | some ti =>
   have hsz : ti.size = m := by simpa [Program.cellsOf, vw] using ht
   have hrun : (execOp a.eval ⟨none, .store t x y, ty, pos, aW, gd⟩).run P w = .ok .skip (w.setRow gb (cur.toList.take o ++ vs ++ cur.toList.drop (o + vs.length)).toArray) := by
    show ((Instr.storeAt t (a.eval x) (a.eval y)) >>= fun _ => pure Next.skip).run P w = _
    rw [Nc, e2]
    have : (Instr.storeAt t (.pointer (some ⟨gb, o, none⟩)) v).run P w = .ok () (w.setRow gb (cur.toList.take o ++ vs ++ cur.toList.drop (o + vs.length)).toArray) := by
     show (storeVar t ⟨gb, o, none⟩ v).run P w = _
     unfold storeVar
     rw [run_bind_ok (qZ vw w), hvs]
     have hsz2 : ¬ (vs.toArray.size ≠ ti.size) := by simp [hlen, hsz]
     simp only [hsz2, if_false]
     exact hst
    rw [run_bind_ok this]
    rfl
   unfold Oper.wp
   rw [hrun]
   have hcl : cur.toList.length = cur.size := Array.length_toList
   have hpre : (cur.toList.take o).length = o := by rw [List.length_take, hcl]; omega
   have hne : ∀ k, k ≠ gb → (w.setRow gb (cur.toList.take o ++ vs ++ cur.toList.drop (o + vs.length)).toArray).heap[k]? = w.heap[k]? := fun k hk => by
    simp [World.setRow, Array.getElem?_modify, Ne.symm hk]
   refine hs _ _ k _ _ ⟨S, hms.upd hu ⟨rfl, rfl, rfl, by simp [World.setRow], fun kk _ hn => hne kk (fun h => hn ⟨_, ha, h⟩)⟩ (fun _ h => h) (fun _ h => .inl h) (fun k hk => by simpa [World.setRow] using hms.lt k hk) ⟨by rw [List.length_set]; exact hφ.1, .inr ⟨gb, off, _, ha, setRow_heap w gb cur _ e (0, 0) hgb, by rw [List.length_set]; exact h3, ?_, ?_⟩⟩ ?_⟩ ho
   ·simp only [List.size_toArray, List.length_append, hpre, List.length_drop, hcl]
    show off + r.cap * _ ≤ _
    omega
   ·intro p z hq
    have Kq : ∀ k, S k → (w.setRow gb (cur.toList.take o ++ vs ++ cur.toList.drop (o + vs.length)).toArray).heap[k]? = w.heap[k]? := fun k hk => hne k (fun h => by subst h; exact (hin k ⟨_, ha, rfl⟩).2.1 hk)
    have cells : ∀ c, (cur.toList.take o ++ vs ++ cur.toList.drop (o + vs.length))[c]? = if c < o then cur[c]? else if c < o + vs.length then vs[c - o]? else cur[c]? := fun c => by
     by_cases hc : c < o
     ·rw [if_pos hc, List.append_assoc, List.getElem?_append_left (by omega), List.getElem?_take, if_pos hc]; simp
     ·rw [if_neg hc, List.append_assoc, List.getElem?_append_right (by omega), hpre]
      by_cases hc2 : c < o + vs.length
      ·rw [if_pos hc2, List.getElem?_append_left (by omega)]
      ·rw [if_neg hc2, List.getElem?_append_right (by omega), List.getElem?_drop]
       rw [show o + vs.length + (c - o - vs.length) = c by omega]; simp
    by_cases hqi : p = i.toNat
    ·subst hqi
     rw [List.getElem?_set_self (by omega)] at hq
     cases hq
     have hput : (r.put i.toNat q).es i.toNat = q := by simp [SR.put]
     rw [hput]
     refine ⟨fun j' v' hv' => ?_, fun h => absurd rfl (hon _ h).2⟩
     have hj' : j' < aj.n α := by have := (List.getElem?_eq_some_iff.1 hv').1; rwa [aj.len] at this
     simp only [List.getElem?_toArray]
     rw [cells]
     rw [henc] at hv'
     by_cases hin' : j ≤ j' ∧ j' < j + vs.length
     ·have e3 : j' = j + (j' - j) := by omega
      rw [e3, QT vs _ j (j' - j) (by omega) (by rw [aj.len]; omega)] at hv'
      rw [if_neg (by omega), if_pos (by omega)]
      rw [show off + (i.toNat * aj.n α + j') - o = j' - j by omega]
      exact hv'
     ·rw [L6 vs _ j j' (by omega)] at hv'
      have := (h5 _ u hget).1 j' v' hv'
      by_cases hc : off + (i.toNat * aj.n α + j') < o
      ·rw [if_pos hc]; exact this
      ·rw [if_neg hc, if_neg (by omega)]; exact this
    ·rw [List.getElem?_set_ne (Ne.symm hqi)] at hq
     have hput : (r.put i.toNat q).es p = r.es p := by simp [SR.put, hqi]
     rw [hput]
     refine ⟨fun j' v' hv' => ?_, fun ho => aj.dep S w _ _ _ Kq ((h5 p z hq).2 (hon _ ho).1)⟩
     have hj' : j' < aj.n α := by have := (List.getElem?_eq_some_iff.1 hv').1; rwa [aj.len] at this
     have := (h5 p z hq).1 j' v' hv'
     simp only [List.getElem?_toArray]
     rw [cells]
     rcases Nat.lt_or_gt_of_ne hqi with hlt | hgt
     ·have : p * aj.n α + aj.n α ≤ i.toNat * aj.n α := by rw [← Nat.succ_mul]; exact Nat.mul_le_mul_right _ hlt
      rw [if_pos (by omega)]; assumption
     ·have : i.toNat * aj.n α + aj.n α ≤ p * aj.n α := by rw [← Nat.succ_mul]; exact Nat.mul_le_mul_right _ hgt
      rw [if_neg (by omega), if_neg (by omega)]; assumption
   ·rintro kk ⟨p, hp, rfl⟩
    have := hin p.block ⟨p, hp, rfl⟩
    exact ⟨.inl ⟨p, hp, rfl⟩, by simpa [World.setRow] using this.1, this.2.1⟩
/-! ### Reading -/
def Cl {α : Type} [aj α] (κ : Ctx) (H : List Chunk) (r : SR (R α)) (xs : List α) : Prop :=
 ∀ w, Mem κ H w → xs.length ≤ 140737488355328 ∧ ∀ i x, xs[i]? = some x → r.a = some ⟨sb r.a, so r.a, none⟩ ∧ ∀ j v, (enc (r.es i) x)[j]? = some v → w.cell? ⟨sb r.a, so r.a + (i * aj.n α + j), none⟩ = some v
theorem Cl.hrow {α : Type} [aj α] {on : Nat → Prop} {e : TypeId} {r : SR (R α)} {xs : List α} (h : Has H (Dc.hrow on e r xs)) : Cl κ H r xs := fun w hm => by
 obtain ⟨S, hs⟩ := hm
 have h0 := h.φ hs
 have hb := aj.bpos (α := α)
 refine ⟨?_, fun i x hx => ?_⟩
 ·calc xs.length = xs.length * 1 := by omega
   _ ≤ xs.length * aj.bytes α := Nat.mul_le_mul_left _ hb
   _ ≤ _ := h0.1
 ·rcases h0.2 with ⟨_, h2, _⟩ | ⟨g, o, cur, ha, hg, h3, h4, h5⟩
  ·subst h2; simp at hx
  ·refine ⟨by rw [ha]; rfl, fun j v hv => ?_⟩
   rw [ha]
   show w.cell? ⟨g, o + (i * aj.n α + j), none⟩ = some v
   simp [World.cell?, hg, (h5 i x hx).1 j v hv]
theorem Cl.len {α : Type} [aj α] {r : SR (R α)} {xs : List α} (h : Cl κ H r xs) {w : World} (hm : Mem κ H w) : xs.length ≤ 140737488355328 := (h w hm).1
theorem DK {α : Type} [aj α] {x y : Operand} {t : Nat} {k : IntKind} {i : Int} {r : SR (R α)} {xs : List α} {m : Nat} (sz : Nat) (hk : Cl κ H r xs) (hi : g = true → 0 ≤ i ∧ i < xs.length)
  (hx : Gets ρ g x (.slice r.a m r.cap) := by exact gT) (hy : Gets ρ g y (.int k i) := by exact gT)
  (hs : elemSize P t = some sz := by kernel_rfl) (hml : m = xs.length := by first | rfl | simp only [List.length_set, List.length_append, List.length_replicate]) :
  Ev P n κ H ρ g (.indexAddr t x y) (.pointer (some ⟨sb r.a, so r.a + i.toNat * sz, none⟩)) := by
 subst hml
 intro w a dst ty pos aW gd hm ho hg
 have hb := hi hg
 have ha : r.a = some ⟨sb r.a, so r.a, none⟩ := by
  have hlt : i.toNat < xs.length := by omega
  exact ((hk w hm).2 i.toNat xs[i.toNat] (by simp [hlt])).1
 have e1 := hx.eval ho hg
 rw [ha] at e1
 have e2 := hy.eval ho hg
 unfold elemSize at hs
 split at hs
 ·rename_i el hu
  cases hti : P.info? el with
  | none => rw [hti] at hs; cases hs
  | some ti =>
   rw [hti] at hs
   simp at hs
   subst hs
   show (Instr.indexAt t (a.eval x) (a.eval y) >>= fun v => pure (Next.value v)).run P w = _
   rw [e1, e2]
   refine iP ?_
   unfold Instr.indexAt
   show (underlying t >>= _).run P w = _
   rw [run_bind_ok (jQ hu w)]
   show (underlying t >>= _).run P w = _
   rw [run_bind_ok (jQ hu w)]
   simp only [hb, and_self, if_true]
   rw [run_bind_ok (qZ hti w)]
   show Result.ok (Value.pointer (some (Addr.add ⟨sb r.a, so r.a, none⟩ (i.toNat * ti.size)))) w = _
   rw [Addr.add_lit]
 ·cases hs
theorem Tj {α : Type} [aj α] {x : Operand} {t : TypeId} {r : SR (R α)} {xs : List α} {i : Int} {y : α} {o : Nat} {v : Value} (j : Nat) (hk : Cl κ H r xs) (hi : g = true → idx xs i = some y)
  (hv : (enc (r.es i.toNat) y)[j]? = some v) (hx : Gets ρ g x (.pointer (some ⟨sb r.a, o, none⟩)) := by exact gT)
  (ho' : o = so r.a + (i.toNat * aj.n α + j) := by first | rfl | (show _ = _ + (_ * (_ : Nat) + _); omega))
  (ht : lY P t = true := by kernel_rfl) : Ev P n κ H ρ g (.load t x) v :=
 xG hx ht fun hg w hm => by rw [ho']; exact ((hk w hm).2 _ y (kZ (hi hg)).2.2).2 j v hv
theorem SR.gQ {ρ : Type} (r : SR ρ) (i : Nat) (q : ρ) : (r.put i q).es i = q := by simp [SR.put]
end
end Go.Dc
namespace Go.Dc
open Go.RowKit aj
class Inner (α : Type) (β : outParam Type) [aj α] [aj β] where
 get : α → List β
 rep : R α → SR (R β)
 okI : ∀ S w r x, qg S w (rep r) (get x) → ok S w r x
section
variable {α β : Type} [aj α] [aj β] [Inner α β]
variable {P : Program} {n : Nat} {κ : Ctx} {ρ : Env} {H : List Chunk} {g : Bool} {C : Env → List Chunk → Prop}
theorem iq.cut {S : bU} {w : World} {c c1 c2 : Chunk} {H : List Chunk} (hm : iq S κ (c :: H) w) (h1 : c1.φ S w) (h2 : c2.φ S w) (f1 : ∀ k, c1.fp k → c.fp k) (f2 : ∀ k, c2.fp k → c.fp k) (hd : uW c1 c2) :
  iq S κ (c1 :: c2 :: H) w := by
 have h0 := hm.all _ List.mem_cons_self
 have hp := List.pairwise_cons.1 hm.oO
 refine ⟨hm.frame, hm.sub, hm.sup, hm.lt, fun d hd' => ?_, ?_⟩
 ·rcases List.mem_cons.1 hd' with rfl | hd'
  ·exact ⟨h1, fun k hk => h0.2 k (f1 k hk)⟩
  ·rcases List.mem_cons.1 hd' with rfl | hd'
   ·exact ⟨h2, fun k hk => h0.2 k (f2 k hk)⟩
   ·exact hm.all d (List.mem_cons_of_mem _ hd')
 ·rw [List.pairwise_cons, List.pairwise_cons]
  refine ⟨fun d hd' k hk hk' => ?_, fun d hd' k hk hk' => hp.1 d hd' k (f2 k hk) hk', hp.2⟩
  rcases List.mem_cons.1 hd' with rfl | hd'
  ·exact hd k hk hk'
  ·exact hp.1 d hd' k (f1 k hk) hk'
/-! ### Reading -/
/-! ### Append -/
structure Raw (α : Type) [aj α] where
 l : List Value
 hl : l.length = aj.n α
 h1 : ∀ v ∈ l, v.oneCell' = true
instance : aj (Raw α) where
 R := Unit
 n := aj.n α
 bytes := aj.bytes α
 enc := fun _ x => x.l
 ok := fun _ _ _ _ => True
 npos := aj.npos
 bpos := aj.bpos
 len := fun _ x => x.hl
 one := fun _ x => x.h1
 mono := fun _ _ _ _ _ _ h => h
 dep := fun _ _ _ _ _ _ h => h
end
end Go.Dc
namespace Go.Dc
open Go.RowKit aj
inductive Any where
 | s (x : Str)
 | i (x : Int)
 deriving DecidableEq, Inhabited
def Any.qp : Any → Bool
 | .s _ => true
 | .i _ => false
def Any.int : Any → Int
 | .s _ => 0
 | .i x => x
section
variable {P : Program} {n : Nat} {κ : Ctx} {ρ : Env} {H : List Chunk} {g : Bool}
/-! ### Regions of many orders, the last operation of which writes what the others read -/
theorem Ri {md : Region.Mode} {ops : Array Oper} {Q : Exit → Act → World → Prop} {S S' : World → Prop} {z : Nat} (hS : ∀ w, S' w → S w) :
  ∀ (fuel : Nat) (listed : Array Bool) (a : Act) (w : World), tX P md ops Q S' z fuel listed a w → tX P md ops Q S z fuel listed a w
 | 0, _, _, _, h => h
 | fuel + 1, _, _, _, h => ⟨h.1, fun i hi => wpOp_mono (fun a' w' h' => ⟨fun hne => hS _ (h'.1 hne), Ri hS fuel _ a' w' h'.2⟩) (h.2 i hi)⟩
variable {ops : Array Oper} {K : Act → World → Prop} {Hs : List Chunk} {z fuel : Nat} {listed : Array Bool}
theorem Dr (qG : List Chunk) (h2 : ∀ w, Mem κ qG w → Mem κ Hs w) (k : AZ P n κ ops K qG z fuel listed ρ H) : AZ P n κ ops K Hs z fuel listed ρ H :=
 fun w a hm ho => Ri h2 _ _ _ _ (k w a hm ho)
theorem X6 {ρ0 : Env} (h : ∀ G : Nat → Array Bool → Env → List Chunk → List Chunk → Prop, (∀ f l ad H Hs, G f l ad H Hs = AZ P n κ ops K Hs z f l (ad ++ ρ0) H) → G fuel listed [] H Hs) : AZ P n κ ops K Hs z fuel listed ρ0 H :=
 h (fun f l ad H Hs => AZ P n κ ops K Hs z f l (ad ++ ρ0) H) (fun _ _ _ _ _ => rfl)
theorem sO {ρ0 : Env} {G : Nat → Array Bool → Env → List Chunk → List Chunk → Prop} (k : Nat) (hG : ∀ f l ad H Hs, G f l ad H Hs = AZ P n κ ops K Hs z f l (ad ++ ρ0) H) {pG : Env} {l' : Array Bool} {H' qG : List Chunk}
  (h : G fuel l' pG H' qG) (hk : ρ.drop k = ρ0 := by rfl) (hl : listed = l' := by rfl)
  (h1 : zN (fun p => look pG p.1 = look (ρ.take k) p.1) (ρ.take k) := by repeat (first | exact trivial | refine And.intro rfl ?_))
  (h2 : zN (fun p => look pG p.1 = look (ρ.take k) p.1) pG := by repeat (first | exact trivial | refine And.intro rfl ?_))
  (hH : ∀ w, Mem κ H w → Mem κ H' w := by intro w hm; exact hm.oz) (hss : ∀ w, Mem κ qG w → Mem κ Hs w := by intro w hm; exact hm.oz) :
  AZ P n κ ops K Hs z fuel listed ρ H := by
 have e : ρ = ρ.take k ++ ρ0 := by rw [← hk]; exact (List.take_append_drop k ρ).symm
 subst hl
 rw [hG] at h
 intro w a hm ho
 refine Ri hss _ _ _ _ (h w a (hH w hm) ⟨ho.size, ho.pW, fun t e' he => ho.get t e' ?_⟩)
 rw [e]
 rw [← UY h1.mem h2.mem t]
 exact he
end
end Go.Dc
namespace Go.Dc
open Go.RowKit aj
section
variable {P : Program} {n : Nat} {κ : Ctx} {ρ : Env} {H : List Chunk} {g : Bool} {C : Env → List Chunk → Prop}
theorem hA {H : List Chunk} {c : Chunk} (h : Has H c := by repeat (first | exact Has.head | apply Has.tail)) : Has H c := h
theorem uA {H H' : List Chunk} {c c' : Chunk} (h : eD H c c' H' := by repeat (first | exact eD.head | apply eD.tail)) : eD H c c' H' := h
theorem uR {α : Type} {H : List Chunk} {c : Chunk} {c' : α → Chunk} {H' : α → List Chunk} (h : ∀ r', eD H c (c' r') (H' r') := by intro r'; repeat (first | exact eD.head | apply eD.tail)) : ∀ r', eD H c (c' r') (H' r') := h
theorem sA {H H' cs : List Chunk} (h : jF H cs H' := by repeat (first | exact jF.nil | (apply jF.cons; · (repeat (first | exact kC.head | apply kC.tail))))) : jF H cs H' := h
theorem s1 {H H' : List Chunk} {c : Chunk} (h : kC H c H' := by repeat (first | exact kC.head | apply kC.tail)) : kC H c H' := h
theorem rI {H H' : List Chunk} (h : ∀ w, Mem κ H w → Mem κ H' w := by intro w hm; exact hm.oz) : ∀ w, Mem κ H w → Mem κ H' w := h
theorem kI {α : Type} [aj α] {S : bU} {w : World} {r : R α} {x : α} (hs : iq S κ H w) (h : Has H (eB r x) := by repeat (first | exact Has.head | apply Has.tail)) : ok S w r x := h.φ hs
theorem kM {α : Type} [aj α] {S : bU} {w : World} {r : R α} {x : α} (hs : iq S κ H w) (h : Has H (eB r x) := by repeat (first | exact Has.head | apply Has.tail)) : ok (lend S H) w r x := Kn.lend (Kn.eB h) hs
theorem kT {α : Type} [aj α] {e : TypeId} {S : bU} {w : World} {r : SR (R α)} {x : List α} (hs : iq S κ H w) (h : Has H (ah e r x) := by repeat (first | exact Has.head | apply Has.tail)) : ok (α := List α) (lend S H) w r x := Kn.lend (Kn.ah h) hs
theorem oF {α : Type} [aj α] {es : Nat → R α} {xs : List α} (h : ∀ S w r x, ok (α := α) S w r x := by exact fun _ _ _ _ => trivial) : mh κ H es xs := mh.flat h
theorem iS {α : Type} {xs : List α} {i : Int} {x : α} (h : idx xs i = some x) {g : Bool} : g = true → 0 ≤ i ∧ i < xs.length := fun _ => ⟨(kZ h).1, (kZ h).2.1⟩
theorem iT {α : Type} {b : Bool} {x y r : α} (h : b = true) (hM : (if b then x else y) = r) : x = r := (ab5 h).symm.trans hM
theorem iF {α : Type} {b : Bool} {x y r : α} (h : b = false) (hM : (if b then x else y) = r) : y = r := (ab4 h).symm.trans hM
theorem fC {β : Type} {cs' : β → List Chunk} (h : ∀ r c, c ∈ cs' r → F4 c := by (intro r c hc; simp only [List.mem_cons, List.not_mem_nil, or_false] at hc; repeat (first | (rcases hc with rfl | hc; (first | exact TH | exact TI (fun _ _ _ _ => trivial))) | (subst hc; (first | exact TH | exact TI (fun _ _ _ _ => trivial)))))) : ∀ r c, c ∈ cs' r → F4 c := h
section
variable {Q : Exit → Act → World → Prop} {ops : Array Oper} {rest : List Oper}
theorem sr {id : Nat} {l : List Oper} {y : Code} (h : OW P n κ l.toArray (Exit.then (y.wp P Q) Q) l ρ H) : CW P n κ (.seq (.region id l.toArray false) y) Q ρ H :=
 fun w a hm ho => wp_seq (bE h w a hm ho)
theorem on {y : Code} (h : CW P n κ y Q ρ H) : OW P n κ ops (Exit.then (y.wp P Q) Q) [] ρ H := bF h
theorem oe {op : Op} {v : Value} {d : Nat} {ty : TypeId} {pos : String} {aW : Array Edge}
  (h : Ev P n κ H ρ true op v) (k : OW P n κ ops Q rest ((d, .v v) :: ρ) H) (hd : Nat.blt d n = true := by rfl) :
  OW P n κ ops Q (⟨some d, op, ty, pos, aW, none⟩ :: rest) ρ H := aY h k hd
theorem om {x : Operand} {v : Value} {d : Nat} {ty : TypeId} {pos : String} {aW : Array Edge} (k : OW P n κ ops Q rest ((d, .v v) :: ρ) H)
  (hx : Gets ρ true x v := by exact gT) (hd : Nat.blt d n = true := by rfl) : OW P n κ ops Q (⟨some d, .move x, ty, pos, aW, none⟩ :: rest) ρ H := aY (aL hx) k hd
theorem oa {x : Operand} {v : Value} {d : Nat} {ty : TypeId} {pos : String} {aW : Array Edge} (k : OW P n κ ops Q rest ((d, .v v) :: ρ) H)
  (hx : Gets ρ true x v := by exact gT) (hd : Nat.blt d n = true := by rfl) : OW P n κ ops Q (⟨some d, .assign x, ty, pos, aW, none⟩ :: rest) ρ H := aY (d9 hx) k hd
theorem cc {α : Type} {c : Operand} {x y : Code} {t : Bool} {X Y r : α} (hc : mK ρ c = some (.v (.bool t))) (hM : (if t then X else Y) = r) (ht : t = true → X = r → CW P n κ x Q ρ H) (hf : t = false → Y = r → CW P n κ y Q ρ H) :
  CW P n κ (.cond c x y) Q ρ H := qm hc (fun h => ht h (iT h hM)) (fun h => hf h (iF h hM))
theorem pI {T : TypeId} {b : Nat} {l : List Value} {ps : List (Nat × Value)} {H1 H2 Hs : List Chunk} (hu : eD H (own b T l) (AA b ps) H1 := by repeat (first | exact eD.head | apply eD.tail))
  (hp : ∀ p ∈ ps, l[p.1]? = some p.2 := by intro p hp; simp only [List.mem_cons, List.not_mem_nil, or_false] at hp; repeat (first | (rcases hp with rfl | hp; rfl) | (rcases hp with rfl; rfl)))
  (hr : jF H1 (AA b ps :: Hs) H2 := by repeat (first | exact jF.nil | (apply jF.cons; · (repeat (first | exact kC.head | apply kC.tail))))) : ∀ w, Mem κ H w → Mem κ (AA b ps :: Hs) w :=
 fun w hm => (hm.AA ps hu hp).oz hr
end
end
end Go.Dc
namespace Go.Dc
open Go.RowKit aj
abbrev sL {ρ α : Type} (r : SR ρ) (l : List α) : Value := .slice r.a l.length r.cap
abbrev vI (x : Int) : Value := .int .i64 x
abbrev vP (b : Nat) : Value := .pointer (some ⟨b, 0, none⟩)
abbrev eP (b : Nat) : EV := .v (.pointer (some ⟨b, 0, none⟩))
abbrev eI (x : Int) : EV := .v (.int .i64 x)
abbrev eS {ρ α : Type} (r : SR ρ) (l : List α) : EV := .v (.slice r.a l.length r.cap)
abbrev iL {α : Type} [aj α] (x : List α) (r : aj.R (List α)) : Chunk := eB (α := List α) r x
abbrev sB (S : bU) (w : World) : Prop := ∀ k, S k → k < w.heap.size
section
variable {P : Program} {n : Nat} {κ : Ctx} {ρ : Env} {H : List Chunk} {g : Bool}
theorem kG {α : Type} [aj α] (x : List α) (r : aj.R (List α)) (h : Has H (eB (α := List α) r x) := by repeat (first | exact Has.head | apply Has.tail)) : Kn κ H (α := List α) r x := Kn.eB h
end
end Go.Dc

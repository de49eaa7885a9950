/- Plain laws: a generated plan is there. -/
import Derived.Test.YtcalibhfgdncaaaGb
import Derived.Test.YtcalibhfgdncaaaTp
import Derived.Test.YtcalibhfgdncaaaPy
set_option linter.all false
namespace Go.Proofs.Ytcalibhfgdncaaa
open Go.Dc
set_option maxRecDepth 10000
theorem jI {α β : Type} {xs : List α} {i : Int} {K : α → Option β} {Q : β → Prop} (h : 0 ≤ i ∧ i < xs.length) (hk : ∀ x ∈ xs, WP (K x) Q) : WP ((idx xs i).bind K) Q := by
 have hl : i.toNat < xs.length := by omega
 have e : idx xs i = some (xs[i.toNat]) := by simp [idx, h.1, List.getElem?_eq_getElem hl]
 rw [e]; exact hk _ (List.getElem_mem hl)
structure MP (b : dG) (ns : Nat) : Prop where
 tb : b.tracks.length = b.between.length + 1
 b1 : 1 ≤ b.between.length
 b2 : b.between.length ≤ 2
 st : b.l.aQ.length = b.tracks.length
 tr : ∀ t ∈ b.tracks, 0 < t.length ∧ t.length ≤ 2 ∧ ∀ v ∈ t, 0 ≤ v ∧ v < (ns : Int)
 bt : ∀ t ∈ b.between, t.length ≤ 2 ∧ ∀ v ∈ t, 0 ≤ v ∧ v < (ns : Int)
def Wn (p : List Nat × List Nat) : Bool :=
 decide ((lT p.1).2.2.length = (mR p.1 p.2).2.2.2.length + 1) && decide (1 ≤ (mR p.1 p.2).2.2.2.length) && decide ((mR p.1 p.2).2.2.2.length ≤ 2) && decide ((shape p.1 p.2).aQ.length = (lT p.1).2.2.length)
 && (lT p.1).2.2.all (fun t => decide (0 < t.length) && decide (t.length ≤ 2) && t.all (fun v => decide (0 ≤ v) && decide (v < ((shape p.1 p.2).Sections.length : Int))))
 && (mR p.1 p.2).2.2.2.all (fun t => decide (t.length ≤ 2) && t.all (fun v => decide (0 ≤ v) && decide (v < ((shape p.1 p.2).Sections.length : Int))))
theorem adN : shapes.all Wn = true := by decide +kernel
theorem adO {l : List Int} {y : dG × Int} (h : MO l y) : MP y.1 y.1.l.Sections.length := by
 obtain ⟨_, _, ts, bs, h1, h2, h3, h4, h5, h6, h7, _⟩ := h
 have hb := List.all_eq_true.1 adN _ (U0 h1 h2 h3 h4)
 unfold Wn at hb
 rw [← h5, ← h6, ← h7] at hb
 simp only [Bool.and_eq_true, decide_eq_true_eq, List.all_eq_true, erase, List.length_map] at hb
 obtain ⟨⟨⟨⟨⟨a, b⟩, c⟩, d⟩, e⟩, f⟩ := hb
 exact ⟨a, b, c, of_decide_eq_true d, fun t ht => ⟨(e t ht).1.1, (e t ht).1.2, (e t ht).2⟩, fun t ht => ⟨(f t ht).1, (f t ht).2⟩⟩
structure MQ (ns : Nat) (r : aI) : Prop where
 pos : 0 < r.Steps.length
 few : r.Steps.length ≤ 10
 sec : ∀ s ∈ r.Steps, 0 ≤ s.Section ∧ s.Section < (ns : Int)
theorem JG {a : Int} {n : Nat} (h0 : 0 ≤ a) (hn : 0 < n) : 0 ≤ a.tmod (n : Int) ∧ a.tmod (n : Int) < n := by
 rw [Int.tmod_eq_emod_of_nonneg h0]
 exact ⟨Int.emod_nonneg _ (by omega), Int.emod_lt_of_pos _ (by omega)⟩
def JV (ns : Nat) (l : List Step) : Prop := ∀ s ∈ l, 0 ≤ s.Section ∧ s.Section < (ns : Int)
theorem FR {ns : Nat} {l : List Step} (h : JV ns l) {v d : Int} (hv : 0 ≤ v ∧ v < (ns : Int)) : JV ns (l ++ [⟨v, d⟩]) := by
 intro s hs
 rcases List.mem_append.1 hs with hs | hs
 ·exact h s hs
 ·rw [List.mem_singleton] at hs; subst hs; exact hv
theorem adL {b : dG} {ns : Nat} (R : MP b ns) {i a c : Int} {up : Bool} (hi : 0 ≤ i ∧ i < b.between.length) (ha : 0 ≤ a) (hc : 0 ≤ c) : WP (Im b i a c up) (MQ ns) := by
 have htb := R.tb
 have hb2 := R.b2
 unfold Im
 refine jI hi fun t ht => ko (fun _ => ?_) (fun _ => ?_)
 ·refine jI (by omega) fun n hn => gX (by have := (R.tr n hn).1; simp; intro h; simp [h] at this) (jI (JG ha (R.tr n hn).1) fun v hv => gX (by simp) ?_)
  have hv' := (R.tr n hn).2.2 v hv
  refine vN (fun (q : List Step × Nat) => 0 < q.1.length ∧ q.1.length ≤ 1 + q.2 ∧ q.2 ≤ t.length ∧ JV ns q.1) (fun q => 2 - q.2) _ ?_ FUEL _ ⟨by simp, by simp, by simp, FR (by intro s hs; simp at hs) hv'⟩ (lJ (by omega))
  rintro cc ⟨q, k⟩ ⟨h1, h2, h3, h4⟩ hcc
  simp only at h1 h2 h3 h4 hcc
  have hbt := R.bt t ht
  simp only [KS]
  refine ko (fun h => ?_) (fun h => ?_)
  ·simp only [decide_eq_true_eq] at h
   refine jI (by omega) fun u hu => gX (by simp; omega) (hcc _ ⟨by simp, by simp; omega, by simp only; omega, FR h4 (hbt.2 u hu)⟩ (by simp only; omega))
  ·unfold Ph
   refine fE (by omega) (jI (by omega) fun m hm => fE (by omega) (gX (by have := (R.tr m hm).1; simp; intro h; simp [h] at this) (jI (JG hc (R.tr m hm).1) fun u hu => gX (by simp; omega) (wX ⟨by simp, by simp; omega, FR h4 ((R.tr m hm).2.2 u hu)⟩))))
 ·unfold Pg
  refine fE (by omega) (jI (by omega) fun m hm => fE (by omega) (gX (by have := (R.tr m hm).1; simp; intro h; simp [h] at this) (jI (JG hc (R.tr m hm).1) fun u hu => gX (by simp) (fE (by have := (R.bt t ht).1; omega) ?_))))
  have hu' := (R.tr m hm).2.2 u hu
  have hbt := R.bt t ht
  refine vN (fun (q : List Step × Int) => 0 < q.1.length ∧ (q.1.length : Int) ≤ t.length - q.2 ∧ -1 ≤ q.2 ∧ q.2 < t.length ∧ JV ns q.1) (fun q => (q.2 + 1).toNat) _ ?_ FUEL _ ⟨by simp, by simp; omega, by simp only; omega, by simp only; omega, FR (by intro s hs; simp at hs) hu'⟩ (lJ (by simp only; omega))
  rintro cc ⟨q, k⟩ ⟨h1, h2, h3, h3', h4⟩ hcc
  simp only at h1 h2 h3 h3' h4 hcc
  simp only [KT]
  refine ko (fun h => ?_) (fun h => ?_)
  ·simp only [decide_eq_true_eq] at h
   refine jI (by omega) fun u hu => gX (by simp; omega) (fE (by omega) (hcc _ ⟨by simp, by simp; omega, by simp only; omega, by simp only; omega, FR h4 (hbt.2 u hu)⟩ (by simp only; omega)))
  ·unfold Pj
   refine jI (by omega) fun m hm => gX (by have := (R.tr m hm).1; simp; intro h; simp [h] at this) (jI (JG ha (R.tr m hm).1) fun u hu => gX (by simp; omega) (wX ⟨by simp, by simp; omega, FR h4 ((R.tr m hm).2.2 u hu)⟩))
/-! ### A line -/
structure MF (n : Nat) (x : Line) : Prop where
 pos : 0 < x.ay.length
 few : x.ay.length ≤ 2
 rt : ∀ r ∈ x.ay, 0 ≤ r.aI ∧ r.aI < (n : Int)
structure BD (ns : Nat) (rs : List aI) (ls : List Line) : Prop where
 rt : ∀ r ∈ rs, MQ ns r
 ln : ∀ x ∈ ls, MF rs.length x
theorem acI {n m : Nat} {x : Line} (h : MF n x) (hm : n ≤ m) : MF m x := ⟨h.pos, h.few, fun r hr => by have := h.rt r hr; omega⟩
def MG (l : List Int) (ns : Nat) (p : Plan) (y : Int × List aI × List Line) : Prop := mo l y.1 ∧ BD ns y.2.1 y.2.2 ∧ y.2.1.length ≤ p.Routes.length + 2 ∧ y.2.2.length = p.Lines.length + 1
theorem acB {b : dG} {ns : Nat} (R : MP b ns) {l : List Int} {pos : Int} (hs : mo l pos) {p : Plan} (hp : BD ns p.Routes p.Lines) (h1 : p.Routes.length ≤ 100) (h2 : p.Lines.length < 10) {up : Bool} {many : Int} (hm : 1 ≤ many ∧ many ≤ b.between.length) :
  WP (Ik b ⟨l, pos⟩ p up many) (MG l ns p) := by
 have hb2 := R.b2
 unfold Ik
 rw [Cr _ _ h2 (by decide), Option.bind_some]
 obtain ⟨v, j, ev, v0, v1, hj⟩ := jU hs 4 (by omega) (by omega)
 rw [ev, Option.bind_some]
 refine vN (fun (q : Int × List Int × Nat) => mo l q.1 ∧ q.2.1.length = 3 ∧ q.2.2 ≤ 3 ∧ ∀ x ∈ q.2.1, 0 ≤ x) (fun q => 3 - q.2.2) _ ?_ FUEL _ ⟨hj, by simp, by simp, by simp⟩ (lJ (by omega))
 rintro c ⟨p1, lat, t⟩ ⟨g1, g2, g3, g4⟩ hc
 simp only at g1 g2 g3 g4 hc
 simp only [KP]
 refine ko (fun h => ?_) (fun h => ?_)
 ·simp only [decide_eq_true_eq] at h
  obtain ⟨x, k, ex, x0, x1, hk⟩ := jU g1 2 (by omega) (by omega)
  rw [ex, Option.bind_some]
  refine jI (by omega) fun _ _ => hc _ ⟨hk, by simp only [List.length_set]; omega, by simp only; omega, fun z hz => ?_⟩ (by simp only; omega)
  rcases List.mem_or_eq_of_mem_set hz with hz | hz
  ·exact g4 z hz
  ·subst hz; exact x0
 ·unfold O9
  refine vN (fun (q : Int × List aI × List aC × Nat) => mo l q.1 ∧ (q.2.2.2 : Int) ≤ many ∧ q.2.2.1.length = q.2.2.2 ∧ q.2.1.length = p.Routes.length + q.2.2.2 ∧ (∀ r ∈ q.2.1, MQ ns r) ∧ ∀ r ∈ q.2.2.1, 0 ≤ r.aI ∧ r.aI < (q.2.1.length : Int)) (fun q => 2 - q.2.2.2) _ ?_ FUEL _ ⟨g1, by simp; omega, rfl, rfl, hp.rt, by simp⟩ (lJ (by omega))
  rintro c2 ⟨p2, rs, rd, k⟩ ⟨i1, i2, i3, i4, i5, i6⟩ hc2
  simp only at i1 i2 i3 i4 i5 i6 hc2
  simp only [KQ]
  refine ko (fun hk => ?_) (fun hk => ?_)
  ·simp only [decide_eq_true_eq] at hk
   have core : ∀ i : Int, 0 ≤ i ∧ i < many → WP (Ei lat b up rs ⟨l, pos⟩ p2 k many rd c2 i) (MG l ns p) := by
    intro i hi
    unfold Ei
    refine jI (by omega) fun a ha => fE (by omega) (jI (by omega) fun d hd => wp_bind _ (adL R (by omega) (g4 a ha) (g4 d hd)) fun r hr => gX (by simp; omega) (fE (by simp; omega) ?_))
    obtain ⟨x, k3, ex, x0, x1, hk3⟩ := jU i1 3 (by omega) (by omega)
    rw [ex, Option.bind_some]
    have fin : ∀ (p5 mn mx : Int), mo l p5 → WP (Ej rd rs r x k c2 (p5, mn, mx)) (MG l ns p) := by
     intro p5 mn mx h5
     unfold Ej
     refine gX (by simp; omega) (fE (by omega) (hc2 _ ⟨h5, by simp only; omega, by simp; omega, by simp; omega, fun q hq => ?_, fun q hq => ?_⟩ (by simp only; omega)))
     ·rcases List.mem_append.1 hq with hq | hq
      ·exact i5 q hq
      ·rw [List.mem_singleton] at hq; subst hq; exact hr
     ·rcases List.mem_append.1 hq with hq | hq
      ·have := i6 q hq; simp; omega
      ·rw [List.mem_singleton] at hq; subst hq; simp; omega
    unfold KR
    refine fE (by omega) (ko (fun _ => ?_) (fun _ => fin _ _ _ hk3))
    obtain ⟨y, k4, ey, y0, y1, hk4⟩ := jU hk3 6 (by omega) (by omega)
    rw [ey, Option.bind_some]
    refine fE (by simp only; omega) ?_
    obtain ⟨z, k5, ez, z0, z1, hk5⟩ := jU hk4 4 (by omega) (by omega)
    rw [ez, Option.bind_some]
    exact fE (by simp only; omega) (fin _ _ _ hk5)
   refine ko (fun _ => fE (by omega) (fE (by omega) (core _ (by omega)))) (fun _ => core _ (by omega))
  ·unfold Pb
   simp only [decide_eq_false_iff_not] at hk
   refine gX (by simp; omega) (wX ⟨i1, ⟨i5, fun x hx => ?_⟩, (by show rs.length ≤ _; omega), by simp⟩)
   rcases List.mem_append.1 hx with hx | hx
   ·exact acI (hp.ln x hx) (by show p.Routes.length ≤ rs.length; omega)
   ·rw [List.mem_singleton] at hx; subst hx
    exact ⟨by simp only; omega, by simp only; omega, i6⟩
/-! ### Starts and stops, turns -/
theorem Ie {α : Type} {xs : List α} {i : Int} (h : 0 ≤ i ∧ i < xs.length) : ∃ x, idx xs i = some x ∧ x ∈ xs := by
 have hl : i.toNat < xs.length := by omega
 exact ⟨xs[i.toNat], by simp [idx, h.1, List.getElem?_eq_getElem hl], List.getElem_mem hl⟩
theorem W9 {ns : Nat} {p : Plan} (hp : BD ns p.Routes p.Lines) {i k : Int} {x : Line} (hx : idx p.Lines i = some x) (hm : x ∈ p.Lines) (hk : 0 ≤ k ∧ k < x.ay.length) : WP (Eo p i k) (fun v => 0 ≤ v ∧ v < (ns : Int)) := by
 unfold Eo
 rw [hx, Option.bind_some]
 refine jI hk fun r hr => jI ((hp.ln x hm).rt r hr) fun t ht => ?_
 have h := hp.rt t ht
 have := h.pos
 have := h.few
 exact fE (by omega) (jI (by omega) fun s hs => wX (h.sec s hs))
theorem WX {ns : Nat} {p : Plan} (hp : BD ns p.Routes p.Lines) {i k : Int} {x : Line} (hx : idx p.Lines i = some x) (hm : x ∈ p.Lines) (hk : 0 ≤ k ∧ k < x.ay.length) : WP (En p i k) (fun v => 0 ≤ v ∧ v < (ns : Int)) := by
 unfold En
 rw [hx, Option.bind_some]
 refine jI hk fun r hr => jI ((hp.ln x hm).rt r hr) fun t ht => ?_
 have h := hp.rt t ht
 have := h.pos
 exact jI (by omega) fun s hs => wX (h.sec s hs)
def RV (l : List Int) (y : Int × List Turn) : Prop := mo l y.1 ∧ y.2.length ≤ 100
theorem aex {ns : Nat} {l : List Int} {pos : Int} (hs : mo l pos) {p : Plan} (hp : BD ns p.Routes p.Lines) (h3 : p.Lines.length ≤ 4) (ht : p.Turns = []) : WP (Iq ⟨l, pos⟩ p) (RV l) := by
 unfold Iq
 rw [ht]
 refine vN (fun (q : Int × List Turn × List Bool × List Bool × Nat) => mo l q.1 ∧ q.2.1.length ≤ 4 * q.2.2.2.2 ∧ q.2.2.1.length = 4 ∧ q.2.2.2.1.length = 4 ∧ q.2.2.2.2 ≤ p.Lines.length) (fun q => 4 - q.2.2.2.2) _ ?_ FUEL _ ⟨hs, by simp, by simp, by simp, by simp⟩ (lJ (by omega))
 rintro c ⟨p1, tn, f, to, a⟩ ⟨i1, i2, i3, i4, i5⟩ hc
 simp only at i1 i2 i3 i4 i5 hc
 simp only [KY]
 refine ko (fun h => ?_) (fun h => wX ⟨i1, by simp only; omega⟩)
 simp only [decide_eq_true_eq] at h
 refine vN (fun (q : Int × List Turn × List Bool × List Bool × Nat) => mo l q.1 ∧ q.2.1.length ≤ 4 * a + q.2.2.2.2 ∧ q.2.2.1.length = 4 ∧ q.2.2.2.1.length = 4 ∧ q.2.2.2.2 ≤ p.Lines.length) (fun q => 4 - q.2.2.2.2) _ ?_ FUEL _ ⟨i1, by simp only; omega, i3, i4, by simp⟩ (lJ (by omega))
 rintro c2 ⟨p2, Xd, f2, to2, b⟩ ⟨j1, j2, j3, j4, j5⟩ hc2
 simp only at j1 j2 j3 j4 j5 hc2
 simp only [KZ]
 refine ko (fun hb => ?_) (fun hb => ?_)
 ·simp only [decide_eq_true_eq] at hb
  obtain ⟨x, k, ex, x0, x1, hk⟩ := jU j1 3 (by omega) (by omega)
  rw [ex, Option.bind_some]
  have go : ∀ (q : Int) (t : List Turn) (u w : List Bool), mo l q → t.length ≤ 4 * a + b + 1 → u.length = 4 → w.length = 4 → WP (BX c2 b (q, t, u, w)) (RV l) := by
   intro q t u w hq h1 h2 h4
   unfold BX
   exact hc2 _ ⟨hq, by simp only; omega, h2, h4, by simp only; omega⟩ (by simp only; omega)
  obtain ⟨xl, Tz, U3⟩ := Ie (xs := p.Lines) (i := (a : Int)) (by omega)
  have YS : ∀ g : Bool, WP (fP g default (idx p.Lines (a : Int))) (fun y => g = true → y = xl) := by
   intro g
   cases g with
   | false => exact ⟨default, rfl, fun h => by cases h⟩
   | true => exact ⟨xl, Tz, fun _ => rfl⟩
  have hbl : ∀ (g : Bool) (xs : List Bool) (i : Nat), xs.length = 4 → i < 4 → WP (fP g default (idx xs (i : Int))) (fun _ => True) := by
   intro g xs i h4 hi
   cases g with
   | false => exact ⟨default, rfl, trivial⟩
   | true => obtain ⟨y, ey, _⟩ := Ie (xs := xs) (i := (i : Int)) (by omega); exact ⟨y, ey, trivial⟩
  refine wp_bind _ (hbl _ f2 a j3 (by omega)) fun x10 _ => wp_bind _ (hbl _ to2 b j4 (by omega)) fun tY _ => wp_bind _ (YS _) fun sJ e14 => ?_
  refine ko (fun hg => ?_) (fun _ => go _ _ _ _ hk (by omega) j3 j4)
  have e := e14 hg
  subst e
  have lo := hp.ln sJ U3
  have := lo.pos
  have := lo.few
  obtain ⟨yl, YJ, U4⟩ := Ie (xs := p.Lines) (i := (b : Int)) (by omega)
  have lo2 := (hp.ln yl U4).pos
  refine fE (by omega) (wp_bind _ (W9 (p := Plan.mk p.bL p.aT p.Routes p.Lines p.Changes Xd p.aV p.aZ) hp Tz U3 (by omega)) fun vR _ => wp_bind _ (WX (p := Plan.mk p.bL p.aT p.Routes p.Lines p.Changes Xd p.aV p.aZ) hp YJ U4 (by omega)) fun y21 _ => ?_)
  refine ko (fun _ => ?_) (fun _ => go _ _ _ _ hk (by omega) j3 j4)
  refine jI (by omega) fun _ _ => jI (by omega) fun _ _ => ?_
  obtain ⟨y, k4, ey, y0, y1, hk4⟩ := jU hk 10 (by omega) (by omega)
  rw [ey, Option.bind_some]
  refine fE (by simp only; omega) ?_
  obtain ⟨z, k5, ez, z0, z1, hk5⟩ := jU hk4 30 (by omega) (by omega)
  rw [ez, Option.bind_some]
  refine fE (by simp only; omega) (gX (by simp; omega) (go _ _ _ _ hk5 (by simp; omega) (by simp; omega) (by simp; omega)))
 ·unfold Pp
  exact hc _ ⟨j1, by simp only; omega, j3, j4, by simp only; omega⟩ (by simp only; omega)
/-! ### The plan -/
structure RS (p : Plan) : Prop where
 st : p.aT.length ≤ 100
 ro : p.Routes.length ≤ 100
 li : p.Lines.length ≤ 100
 ch : p.Changes.length ≤ 100
 tu : p.Turns.length ≤ 100
 sy : p.aV.length ≤ 100
 de : p.aZ.length ≤ 100
 per : 0 ≤ p.bL ∧ p.bL ≤ 7200
def RU (_ : List Int) (y : Layout × Plan) : Prop := Rn y.1 ∧ BD y.1.Sections.length y.2.Routes y.2.Lines ∧ RS y.2
theorem adl (l : List Int) (hl : l.length ≤ 140737488355328) : WP (Ij l) (RU l) := by
 unfold Ij
 have e : KI l = some ⟨l, 0⟩ := rfl
 rw [e, Option.bind_some]
 refine wp_bind _ (adQ (l := l) ⟨by omega, by omega, hl⟩) ?_
 rintro ⟨b, p0⟩ ro
 have R := adO ro
 have hg : Rn b.l := by
  obtain ⟨_, hr, ts, bs, h1, h2, h3, h4, h5, _⟩ := ro
  exact ⟨hr, (ts, bs), U0 h1 h2 h3 h4, h5⟩
 have r0 := ro.src
 simp only at r0 R ⊢
 have hb1 := R.b1
 have hb2 := R.b2
 have hst := R.st
 have htb := R.tb
 obtain ⟨a1, p1, e1, l1, u1, r1⟩ := jU r0 6 (by omega) (by omega)
 rw [e1, Option.bind_some]
 refine jI (by simp; omega) fun per abd => ?_
 have ae2 : 90 ≤ per ∧ per ≤ 300 := by
  simp only [List.mem_cons, List.not_mem_nil, or_false] at abd
  omega
 obtain ⟨a2, p2, e2, l2, u2, r2⟩ := jU r1 2 (by omega) (by omega)
 rw [e2, Option.bind_some]
 refine fE (by simp only; omega) ?_
 obtain ⟨a3, p3, e3, l3, u3, r3⟩ := jU r2 4 (by omega) (by omega)
 rw [e3, Option.bind_some]
 refine fE (by simp only; omega) (fE (by simp only; omega) ?_)
 obtain ⟨a4, p4, e4, l4, u4, r4⟩ := jU r3 3 (by omega) (by omega)
 rw [e4, Option.bind_some]
 refine fE (by simp only; omega) (fE (by simp only; omega) ?_)
 obtain ⟨a5, p5, e5, l5, u5, r5⟩ := jU r4 3 (by omega) (by omega)
 rw [e5, Option.bind_some]
 refine fE (by simp only; omega) (fE (by simp only; omega) ?_)
 unfold KO
 obtain ⟨a6, p6, e6, l6, u6, r6⟩ := jU r5 3 (by omega) (by omega)
 simp only
 rw [e6, Option.bind_some]
 refine fE (by simp only; omega) ?_
 refine vN (fun (q : Int × List aI × List Line × Int) => mo l q.1 ∧ BD b.l.Sections.length q.2.1 q.2.2.1 ∧ (q.2.2.1.length : Int) + q.2.2.2 ≤ 3 ∧ 0 ≤ q.2.2.2 ∧ q.2.1.length ≤ 2 * q.2.2.1.length ∧ (0 < q.2.2.2 ∨ 0 < q.2.2.1.length)) (fun q => q.2.2.2.toNat) _ ?_ FUEL _ ⟨r6, ⟨by simp, by simp⟩, by simp; omega, by simp only; omega, by simp, by simp only; omega⟩ (lJ (by simp only; omega))
 rintro c ⟨p7, rs, ls, n⟩ ⟨i1, i2, i3, i4, i5, i6⟩ hc
 simp only at i1 i2 i3 i4 i5 i6 hc
 simp only [KJ]
 refine ko (fun h => ?_) (fun h => ?_)
 ·simp only [decide_eq_true_eq] at h
  obtain ⟨a8, p8, e8, l8, u8, r8⟩ := jU i1 2 (by omega) (by omega)
  rw [e8, Option.bind_some]
  obtain ⟨a9, p9, e9, l9, u9, r9⟩ := jU r8 (b.between.length : Int) (by omega) (by omega)
  rw [e9, Option.bind_some]
  refine fE (by simp only; omega) ?_
  refine wp_bind _ (acB R (p := Plan.mk _ _ rs ls _ _ _ _) r9 i2 (by simp only; omega) (by simp only; omega) (by omega)) ?_
  rintro ⟨p10, rs2, ls2⟩ ⟨q1, q2, q3, q4⟩
  simp only at q1 q2 q3 q4 ⊢
  exact fE (by omega) (hc _ ⟨q1, q2, by simp only; omega, by simp only; omega, by simp only; omega, by simp only; omega⟩ (by simp only; omega))
 ·simp only [decide_eq_false_iff_not] at h
  unfold O6
  refine wp_bind _ (aex (p := Plan.mk _ _ rs ls _ _ _ _) i1 i2 (by simp only; omega) rfl) ?_
  rintro ⟨p11, tn⟩ ⟨t1, t2⟩
  simp only at t1 t2 ⊢
  obtain ⟨a12, p12, e12, Ep, u12, Vy⟩ := jU t1 3 (by omega) (by omega)
  rw [e12, Option.bind_some]
  refine vN (fun (q : Int × List Change × Int) => mo l q.1 ∧ (q.2.1.length : Int) + q.2.2 ≤ 3 ∧ 0 ≤ q.2.2) (fun q => q.2.2.toNat) _ ?_ FUEL _ ⟨Vy, by simp; omega, by simp only; omega⟩ (lJ (by simp only; omega))
  rintro c2 ⟨p13, ch, k2⟩ ⟨j1, j2, j3⟩ hc2
  simp only at j1 j2 j3 hc2
  simp only [KM]
  refine ko (fun hk => ?_) (fun hk => ?_)
  ·simp only [Bool.and_eq_true, decide_eq_true_eq] at hk
   obtain ⟨MS, p14, e14, l14, u14, bH⟩ := jU j1 (ls.length : Int) (by omega) (by omega)
   rw [e14, Option.bind_some]
   obtain ⟨a15, p15, e15, vE, u15, IX⟩ := jU bH 3 (by omega) (by omega)
   rw [e15, Option.bind_some]
   have tr := JG (a := MS + 1) (n := ls.length) (by omega) (by omega)
   obtain ⟨x1, Tw, U1⟩ := Ie (xs := ls) (i := MS) (by omega)
   obtain ⟨x2, Tx, U2⟩ := Ie (xs := ls) (i := (MS + 1).tmod (ls.length : Int)) tr
   have o1 := i2.ln x1 U1
   have o2 := i2.ln x2 U2
   have o1p := o1.pos
   have o2p := o2.pos
   have o1f := o1.few
   have o2f := o2.few
   simp only
   refine fE (by omega) (gX (by simp only [decide_eq_true_eq]; omega) ?_)
   rw [Tw, Option.bind_some, Tx, Option.bind_some]
   obtain ⟨a16, p16, e16, l16, u16, r16⟩ := jU IX (x1.ay.length : Int) (by omega) (by omega)
   rw [e16, Option.bind_some]
   obtain ⟨a17, p17, e17, l17, u17, bD⟩ := jU r16 (x2.ay.length : Int) (by omega) (by omega)
   simp only
   rw [e17, Option.bind_some]
   obtain ⟨a18, p18, e18, l18, u18, Li⟩ := jU bD 20 (by omega) (by omega)
   simp only
   rw [e18, Option.bind_some]
   obtain ⟨a19, p19, e19, l19, u19, uN⟩ := jU Li per (by omega) (by omega)
   simp only
   rw [e19, Option.bind_some]
   refine fE (by simp only; omega) (wp_bind _ (W9 (p := Plan.mk _ _ rs ls _ _ _ _) i2 Tw U1 (by omega)) fun JM YT => jI YT fun zH _ => wp_bind _ (WX (p := Plan.mk _ _ rs ls _ _ _ _) i2 Tx U2 (by omega)) fun JN h80 => jI h80 fun x82 _ => ?_)
   refine ko (fun _ => gX (by simp; omega) ?_) (fun _ => ?_)
   ·unfold D9
    exact fE (by omega) (hc2 _ ⟨uN, by simp; omega, by simp only; omega⟩ (by simp only; omega))
   ·unfold D9
    exact fE (by omega) (hc2 _ ⟨uN, by simp only; omega, by simp only; omega⟩ (by simp only; omega))
  ·unfold O7
   obtain ⟨a20, p20, e20, l20, u20, bG⟩ := jU j1 4 (by omega) (by omega)
   rw [e20, Option.bind_some]
   have last : ∀ (q : Int) (sy : List Sync), mo l q → sy.length ≤ 1 → WP (Ea ⟨l, 0⟩ (b, p0) per ([(av.mk (⟨[88]⟩ : Str) (1 + a2) (10000 + (5000 * a3)) (400 + (200 * a4)) (400 + (200 * a5)))] : List av) rs ls ch (p11, tn) (q, sy)) (RU l) := by
    intro q sy hq hsy
    unfold Ea
    obtain ⟨a21, p21, e21, l21, u21, AB⟩ := jU hq 3 (by omega) (by omega)
    simp only
    rw [e21, Option.bind_some]
    refine vN (fun (q : Int × List aX × Int) => mo l q.1 ∧ (q.2.1.length : Int) + q.2.2 ≤ 3 ∧ 0 ≤ q.2.2) (fun q => q.2.2.toNat) _ ?_ FUEL _ ⟨AB, by simp; omega, by simp only; omega⟩ (lJ (by simp only; omega))
    rintro c3 ⟨p22, dm, k3⟩ ⟨m1, m2, m3⟩ hc3
    simp only at m1 m2 m3 hc3
    simp only [KN]
    refine ko (fun hk3 => ?_) (fun hk3 => ?_)
    ·simp only [decide_eq_true_eq] at hk3
     obtain ⟨a23, p23, e23, l23, u23, bM⟩ := jU m1 (b.l.aQ.length : Int) (by omega) (by omega)
     rw [e23, Option.bind_some]
     refine fE (by simp only; omega) (fE (by omega) ?_)
     obtain ⟨a24, p24, e24, l24, u24, oK⟩ := jU bM ((b.l.aQ.length : Int) - 1) (by omega) (by omega)
     rw [e24, Option.bind_some]
     refine fE (by simp only; omega) (gX (by simp only [decide_eq_true_eq]; omega) ?_)
     obtain ⟨a25, p25, e25, l25, u25, AL⟩ := jU oK 9 (by omega) (by omega)
     rw [e25, Option.bind_some]
     exact fE (by simp only; omega) (gX (by simp; omega) (fE (by omega) (hc3 _ ⟨AL, by simp; omega, by simp only; omega⟩ (by simp only; omega))))
    ·unfold O8
     exact wX ⟨hg, i2, ⟨by simp, by simp only; omega, by simp only; omega, by simp only; omega, by simp only; omega, by simp only; omega, by simp only; omega, by simp only; omega⟩⟩
   refine ko (fun _ => ?_) (fun _ => last _ _ bG (by simp))
   obtain ⟨a26, p26, e26, l26, u26, qX⟩ := jU bG per (by omega) (by omega)
   rw [e26, Option.bind_some]
   exact gX (by simp) (last _ _ qX (by simp))
end Go.Proofs.Ytcalibhfgdncaaa

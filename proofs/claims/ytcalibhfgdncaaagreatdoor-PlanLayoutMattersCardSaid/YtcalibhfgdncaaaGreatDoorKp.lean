/- Plain laws: a generated plan is there. -/
import Derived.Test.YtcalibhfgdncaaaGreatDoorGb
import Derived.Test.YtcalibhfgdncaaaGreatDoorTp
import Derived.Test.YtcalibhfgdncaaaGreatDoorPy
namespace Go.Proofs.YtcalibhfgdncaaaGreatDoor
open Go.Dc
set_option maxRecDepth 10000
set_option linter.unusedSimpArgs false

theorem wp_idxm {α β : Type} {xs : List α} {i : Int} {K : α → Option β} {Q : β → Prop} (h : 0 ≤ i ∧ i < xs.length) (hk : ∀ x ∈ xs, WP (K x) Q) : WP ((idx xs i).bind K) Q := by
  have hl : i.toNat < xs.length := by omega
  have e : idx xs i = some (xs[i.toNat]) := by simp [idx, h.1, List.getElem?_eq_getElem hl]
  rw [e]; exact hk _ (List.getElem_mem hl)

structure RowS (b : Keep_builder) (ns : Nat) : Prop where
  tb : b.tracks.length = b.between.length + 1
  b1 : 1 ≤ b.between.length
  b2 : b.between.length ≤ 2
  st : b.l.Stations.length = b.tracks.length
  tr : ∀ t ∈ b.tracks, 0 < t.length ∧ t.length ≤ 2 ∧ ∀ v ∈ t, 0 ≤ v ∧ v < (ns : Int)
  bt : ∀ t ∈ b.between, t.length ≤ 2 ∧ ∀ v ∈ t, 0 ≤ v ∧ v < (ns : Int)

def rowB (p : List Nat × List Nat) : Bool :=
  decide ((sk1 p.1).2.2.length = (sk2 p.1 p.2).2.2.2.length + 1) && decide (1 ≤ (sk2 p.1 p.2).2.2.2.length) && decide ((sk2 p.1 p.2).2.2.2.length ≤ 2) && decide ((shape p.1 p.2).Stations.length = (sk1 p.1).2.2.length)
  && (sk1 p.1).2.2.all (fun t => decide (0 < t.length) && decide (t.length ≤ 2) && t.all (fun v => decide (0 ≤ v) && decide (v < ((shape p.1 p.2).Sections.length : Int))))
  && (sk2 p.1 p.2).2.2.2.all (fun t => decide (t.length ≤ 2) && t.all (fun v => decide (0 ≤ v) && decide (v < ((shape p.1 p.2).Sections.length : Int))))
theorem rowB_all : shapes.all rowB = true := by decide +kernel
theorem rowS_of {l : List Int} {y : Keep_builder × Int} (h : RowOk l y) : RowS y.1 y.1.l.Sections.length := by
  obtain ⟨_, _, ts, bs, h1, h2, h3, h4, h5, h6, h7, _⟩ := h
  have hb := List.all_eq_true.1 rowB_all _ (mem_shapes h1 h2 h3 h4)
  unfold rowB at hb
  rw [← h5, ← h6, ← h7] at hb
  simp only [Bool.and_eq_true, decide_eq_true_eq, List.all_eq_true, erase, List.length_map] at hb
  obtain ⟨⟨⟨⟨⟨a, b⟩, c⟩, d⟩, e⟩, f⟩ := hb
  exact ⟨a, b, c, of_decide_eq_true d, fun t ht => ⟨(e t ht).1.1, (e t ht).1.2, (e t ht).2⟩, fun t ht => ⟨(f t ht).1, (f t ht).2⟩⟩

structure RtOk (ns : Nat) (r : Route) : Prop where
  pos : 0 < r.Steps.length
  few : r.Steps.length ≤ 10
  sec : ∀ s ∈ r.Steps, 0 ≤ s.Section ∧ s.Section < (ns : Int)

theorem tmod_rng {a : Int} {n : Nat} (h0 : 0 ≤ a) (hn : 0 < n) : 0 ≤ a.tmod (n : Int) ∧ a.tmod (n : Int) < n := by
  rw [Int.tmod_eq_emod_of_nonneg h0]
  exact ⟨Int.emod_nonneg _ (by omega), Int.emod_lt_of_pos _ (by omega)⟩
def SOk (ns : Nat) (l : List Step) : Prop := ∀ s ∈ l, 0 ≤ s.Section ∧ s.Section < (ns : Int)
theorem sok_snoc {ns : Nat} {l : List Step} (h : SOk ns l) {v d : Int} (hv : 0 ≤ v ∧ v < (ns : Int)) : SOk ns (l ++ [⟨v, d⟩]) := by
  intro s hs
  rcases List.mem_append.1 hs with hs | hs
  · exact h s hs
  · rw [List.mem_singleton] at hs; subst hs; exact hv

theorem route_wp {b : Keep_builder} {ns : Nat} (R : RowS b ns) {i a c : Int} {up : Bool} (hi : 0 ≤ i ∧ i < b.between.length) (ha : 0 ≤ a) (hc : 0 ≤ c) : WP (keep_builder_route_m b i a c up) (RtOk ns) := by
  have htb := R.tb
  have hb2 := R.b2
  unfold keep_builder_route_m
  refine wp_idxm hi fun t ht => wp_ite (fun _ => ?_) (fun _ => ?_)
  · refine wp_idxm (by omega) fun n hn => wp_chk (by have := (R.tr n hn).1; simp; intro h; simp [h] at this) (wp_idxm (tmod_rng ha (R.tr n hn).1) fun v hv => wp_chk (by simp) ?_)
    have hv' := (R.tr n hn).2.2 v hv
    refine wp_iter (fun (q : List Step × Nat) => 0 < q.1.length ∧ q.1.length ≤ 1 + q.2 ∧ q.2 ≤ t.length ∧ SOk ns q.1) (fun q => 2 - q.2) _ ?_ FUEL _ ⟨by simp, by simp, by simp, sok_snoc (by intro s hs; simp at hs) hv'⟩ (fuel_of (by omega))
    rintro cc ⟨q, k⟩ ⟨h1, h2, h3, h4⟩ hcc
    simp only at h1 h2 h3 h4 hcc
    have hbt := R.bt t ht
    simp only [keep_builder_route_b1]
    refine wp_ite (fun h => ?_) (fun h => ?_)
    · simp only [decide_eq_true_eq] at h
      refine wp_idxm (by omega) fun u hu => wp_chk (by simp; omega) (hcc _ ⟨by simp, by simp; omega, by simp only; omega, sok_snoc h4 (hbt.2 u hu)⟩ (by simp only; omega))
    · unfold keep_builder_route_k2
      refine wp_i64 (by omega) (wp_idxm (by omega) fun m hm => wp_i64 (by omega) (wp_chk (by have := (R.tr m hm).1; simp; intro h; simp [h] at this) (wp_idxm (tmod_rng hc (R.tr m hm).1) fun u hu => wp_chk (by simp; omega) (wp_some ⟨by simp, by simp; omega, sok_snoc h4 ((R.tr m hm).2.2 u hu)⟩))))
  · unfold keep_builder_route_k1
    refine wp_i64 (by omega) (wp_idxm (by omega) fun m hm => wp_i64 (by omega) (wp_chk (by have := (R.tr m hm).1; simp; intro h; simp [h] at this) (wp_idxm (tmod_rng hc (R.tr m hm).1) fun u hu => wp_chk (by simp) (wp_i64 (by have := (R.bt t ht).1; omega) ?_))))
    have hu' := (R.tr m hm).2.2 u hu
    have hbt := R.bt t ht
    refine wp_iter (fun (q : List Step × Int) => 0 < q.1.length ∧ (q.1.length : Int) ≤ t.length - q.2 ∧ -1 ≤ q.2 ∧ q.2 < t.length ∧ SOk ns q.1) (fun q => (q.2 + 1).toNat) _ ?_ FUEL _ ⟨by simp, by simp; omega, by simp only; omega, by simp only; omega, sok_snoc (by intro s hs; simp at hs) hu'⟩ (fuel_of (by simp only; omega))
    rintro cc ⟨q, k⟩ ⟨h1, h2, h3, h3', h4⟩ hcc
    simp only at h1 h2 h3 h3' h4 hcc
    simp only [keep_builder_route_b2]
    refine wp_ite (fun h => ?_) (fun h => ?_)
    · simp only [decide_eq_true_eq] at h
      refine wp_idxm (by omega) fun u hu => wp_chk (by simp; omega) (wp_i64 (by omega) (hcc _ ⟨by simp, by simp; omega, by simp only; omega, by simp only; omega, sok_snoc h4 (hbt.2 u hu)⟩ (by simp only; omega)))
    · unfold keep_builder_route_k3
      refine wp_idxm (by omega) fun m hm => wp_chk (by have := (R.tr m hm).1; simp; intro h; simp [h] at this) (wp_idxm (tmod_rng ha (R.tr m hm).1) fun u hu => wp_chk (by simp; omega) (wp_some ⟨by simp, by simp; omega, sok_snoc h4 ((R.tr m hm).2.2 u hu)⟩))

/-! ### A line -/
structure LOkP (n : Nat) (x : Line) : Prop where
  pos : 0 < x.Rides.length
  few : x.Rides.length ≤ 2
  rt : ∀ r ∈ x.Rides, 0 ≤ r.Route ∧ r.Route < (n : Int)
structure POk (ns : Nat) (rs : List Route) (ls : List Line) : Prop where
  rt : ∀ r ∈ rs, RtOk ns r
  ln : ∀ x ∈ ls, LOkP rs.length x
theorem lok_mono {n m : Nat} {x : Line} (h : LOkP n x) (hm : n ≤ m) : LOkP m x := ⟨h.pos, h.few, fun r hr => by have := h.rt r hr; omega⟩


def LnP (l : List Int) (ns : Nat) (p : Plan) (y : Int × List Route × List Line) : Prop := SrcOk l y.1 ∧ POk ns y.2.1 y.2.2 ∧ y.2.1.length ≤ p.Routes.length + 2 ∧ y.2.2.length = p.Lines.length + 1
theorem line_wp {b : Keep_builder} {ns : Nat} (R : RowS b ns) {l : List Int} {pos : Int} (hs : SrcOk l pos) {p : Plan} (hp : POk ns p.Routes p.Lines) (h1 : p.Routes.length ≤ 100) (h2 : p.Lines.length < 10) {up : Bool} {many : Int} (hm : 1 ≤ many ∧ many ≤ b.between.length) :
    WP (keep_builder_line_m b ⟨l, pos⟩ p up many) (LnP l ns p) := by
  have hb2 := R.b2
  unfold keep_builder_line_m
  rw [named_m _ _ h2 (by decide), Option.bind_some]
  obtain ⟨v, j, ev, v0, v1, hj⟩ := next_m hs 4 (by omega) (by omega)
  rw [ev, Option.bind_some]
  refine wp_iter (fun (q : Int × List Int × Nat) => SrcOk l q.1 ∧ q.2.1.length = 3 ∧ q.2.2 ≤ 3 ∧ ∀ x ∈ q.2.1, 0 ≤ x) (fun q => 3 - q.2.2) _ ?_ FUEL _ ⟨hj, by simp, by simp, by simp⟩ (fuel_of (by omega))
  rintro c ⟨p1, lat, t⟩ ⟨g1, g2, g3, g4⟩ hc
  simp only at g1 g2 g3 g4 hc
  simp only [keep_builder_line_b1]
  refine wp_ite (fun h => ?_) (fun h => ?_)
  · simp only [decide_eq_true_eq] at h
    obtain ⟨x, k, ex, x0, x1, hk⟩ := next_m g1 2 (by omega) (by omega)
    rw [ex, Option.bind_some]
    refine wp_idxm (by omega) fun _ _ => hc _ ⟨hk, by simp only [List.length_set]; omega, by simp only; omega, fun z hz => ?_⟩ (by simp only; omega)
    rcases List.mem_or_eq_of_mem_set hz with hz | hz
    · exact g4 z hz
    · subst hz; exact x0
  · unfold keep_builder_line_k1
    refine wp_iter (fun (q : Int × List Route × List Ride × Nat) => SrcOk l q.1 ∧ (q.2.2.2 : Int) ≤ many ∧ q.2.2.1.length = q.2.2.2 ∧ q.2.1.length = p.Routes.length + q.2.2.2 ∧ (∀ r ∈ q.2.1, RtOk ns r) ∧ ∀ r ∈ q.2.2.1, 0 ≤ r.Route ∧ r.Route < (q.2.1.length : Int)) (fun q => 2 - q.2.2.2) _ ?_ FUEL _ ⟨g1, by simp; omega, rfl, rfl, hp.rt, by simp⟩ (fuel_of (by omega))
    rintro c2 ⟨p2, rs, rd, k⟩ ⟨i1, i2, i3, i4, i5, i6⟩ hc2
    simp only at i1 i2 i3 i4 i5 i6 hc2
    simp only [keep_builder_line_b2]
    refine wp_ite (fun hk => ?_) (fun hk => ?_)
    · simp only [decide_eq_true_eq] at hk
      have core : ∀ i : Int, 0 ≤ i ∧ i < many → WP (keep_builder_line_k3 lat b up rs ⟨l, pos⟩ p2 k many rd c2 i) (LnP l ns p) := by
        intro i hi
        unfold keep_builder_line_k3
        refine wp_idxm (by omega) fun a ha => wp_i64 (by omega) (wp_idxm (by omega) fun d hd => wp_bind _ (route_wp R (by omega) (g4 a ha) (g4 d hd)) fun r hr => wp_chk (by simp; omega) (wp_i64 (by simp; omega) ?_))
        obtain ⟨x, k3, ex, x0, x1, hk3⟩ := next_m i1 3 (by omega) (by omega)
        rw [ex, Option.bind_some]
        have fin : ∀ (p5 mn mx : Int), SrcOk l p5 → WP (keep_builder_line_k5 rd rs r x k c2 (p5, mn, mx)) (LnP l ns p) := by
          intro p5 mn mx h5
          unfold keep_builder_line_k5
          refine wp_chk (by simp; omega) (wp_i64 (by omega) (hc2 _ ⟨h5, by simp only; omega, by simp; omega, by simp; omega, fun q hq => ?_, fun q hq => ?_⟩ (by simp only; omega)))
          · rcases List.mem_append.1 hq with hq | hq
            · exact i5 q hq
            · rw [List.mem_singleton] at hq; subst hq; exact hr
          · rcases List.mem_append.1 hq with hq | hq
            · have := i6 q hq; simp; omega
            · rw [List.mem_singleton] at hq; subst hq; simp; omega
        unfold keep_builder_line_k4
        refine wp_i64 (by omega) (wp_ite (fun _ => ?_) (fun _ => fin _ _ _ hk3))
        obtain ⟨y, k4, ey, y0, y1, hk4⟩ := next_m hk3 6 (by omega) (by omega)
        rw [ey, Option.bind_some]
        refine wp_i64 (by simp only; omega) ?_
        obtain ⟨z, k5, ez, z0, z1, hk5⟩ := next_m hk4 4 (by omega) (by omega)
        rw [ez, Option.bind_some]
        exact wp_i64 (by simp only; omega) (fin _ _ _ hk5)
      refine wp_ite (fun _ => wp_i64 (by omega) (wp_i64 (by omega) (core _ (by omega)))) (fun _ => core _ (by omega))
    · unfold keep_builder_line_k2
      simp only [decide_eq_false_iff_not] at hk
      refine wp_chk (by simp; omega) (wp_some ⟨i1, ⟨i5, fun x hx => ?_⟩, (by show rs.length ≤ _; omega), by simp⟩)
      rcases List.mem_append.1 hx with hx | hx
      · exact lok_mono (hp.ln x hx) (by show p.Routes.length ≤ rs.length; omega)
      · rw [List.mem_singleton] at hx; subst hx
        exact ⟨by simp only; omega, by simp only; omega, i6⟩

/-! ### Starts and stops, turns -/
theorem idx_ex {α : Type} {xs : List α} {i : Int} (h : 0 ≤ i ∧ i < xs.length) : ∃ x, idx xs i = some x ∧ x ∈ xs := by
  have hl : i.toNat < xs.length := by omega
  exact ⟨xs[i.toNat], by simp [idx, h.1, List.getElem?_eq_getElem hl], List.getElem_mem hl⟩
theorem stop_wp {ns : Nat} {p : Plan} (hp : POk ns p.Routes p.Lines) {i k : Int} {x : Line} (hx : idx p.Lines i = some x) (hm : x ∈ p.Lines) (hk : 0 ≤ k ∧ k < x.Rides.length) : WP (keep_stop_m p i k) (fun v => 0 ≤ v ∧ v < (ns : Int)) := by
  unfold keep_stop_m
  rw [hx, Option.bind_some]
  refine wp_idxm hk fun r hr => wp_idxm ((hp.ln x hm).rt r hr) fun t ht => ?_
  have h := hp.rt t ht
  have := h.pos
  have := h.few
  exact wp_i64 (by omega) (wp_idxm (by omega) fun s hs => wp_some (h.sec s hs))
theorem start_wp {ns : Nat} {p : Plan} (hp : POk ns p.Routes p.Lines) {i k : Int} {x : Line} (hx : idx p.Lines i = some x) (hm : x ∈ p.Lines) (hk : 0 ≤ k ∧ k < x.Rides.length) : WP (keep_start_m p i k) (fun v => 0 ≤ v ∧ v < (ns : Int)) := by
  unfold keep_start_m
  rw [hx, Option.bind_some]
  refine wp_idxm hk fun r hr => wp_idxm ((hp.ln x hm).rt r hr) fun t ht => ?_
  have h := hp.rt t ht
  have := h.pos
  exact wp_idxm (by omega) fun s hs => wp_some (h.sec s hs)

def TnP (l : List Int) (y : Int × List Turn) : Prop := SrcOk l y.1 ∧ y.2.length ≤ 100
theorem turns_wp {ns : Nat} {l : List Int} {pos : Int} (hs : SrcOk l pos) {p : Plan} (hp : POk ns p.Routes p.Lines) (h3 : p.Lines.length ≤ 4) (ht : p.Turns = []) : WP (keep_turns_m ⟨l, pos⟩ p) (TnP l) := by
  unfold keep_turns_m
  rw [ht]
  refine wp_iter (fun (q : Int × List Turn × List Bool × List Bool × Nat) => SrcOk l q.1 ∧ q.2.1.length ≤ 4 * q.2.2.2.2 ∧ q.2.2.1.length = 4 ∧ q.2.2.2.1.length = 4 ∧ q.2.2.2.2 ≤ p.Lines.length) (fun q => 4 - q.2.2.2.2) _ ?_ FUEL _ ⟨hs, by simp, by simp, by simp, by simp⟩ (fuel_of (by omega))
  rintro c ⟨p1, tn, f, to, a⟩ ⟨i1, i2, i3, i4, i5⟩ hc
  simp only at i1 i2 i3 i4 i5 hc
  simp only [keep_turns_b1]
  refine wp_ite (fun h => ?_) (fun h => wp_some ⟨i1, by simp only; omega⟩)
  simp only [decide_eq_true_eq] at h
  refine wp_iter (fun (q : Int × List Turn × List Bool × List Bool × Nat) => SrcOk l q.1 ∧ q.2.1.length ≤ 4 * a + q.2.2.2.2 ∧ q.2.2.1.length = 4 ∧ q.2.2.2.1.length = 4 ∧ q.2.2.2.2 ≤ p.Lines.length) (fun q => 4 - q.2.2.2.2) _ ?_ FUEL _ ⟨i1, by simp only; omega, i3, i4, by simp⟩ (fuel_of (by omega))
  rintro c2 ⟨p2, tn2, f2, to2, b⟩ ⟨j1, j2, j3, j4, j5⟩ hc2
  simp only at j1 j2 j3 j4 j5 hc2
  simp only [keep_turns_b2]
  refine wp_ite (fun hb => ?_) (fun hb => ?_)
  · simp only [decide_eq_true_eq] at hb
    obtain ⟨x, k, ex, x0, x1, hk⟩ := next_m j1 3 (by omega) (by omega)
    rw [ex, Option.bind_some]
    have go : ∀ (q : Int) (t : List Turn) (u w : List Bool), SrcOk l q → t.length ≤ 4 * a + b + 1 → u.length = 4 → w.length = 4 → WP (keep_turns_k2 c2 b (q, t, u, w)) (TnP l) := by
      intro q t u w hq h1 h2 h4
      unfold keep_turns_k2
      exact hc2 _ ⟨hq, by simp only; omega, h2, h4, by simp only; omega⟩ (by simp only; omega)
    obtain ⟨xl, exl, mxl⟩ := idx_ex (xs := p.Lines) (i := (a : Int)) (by omega)
    have h14 : ∀ g : Bool, WP (whn g default (idx p.Lines (a : Int))) (fun y => g = true → y = xl) := by
      intro g
      cases g with
      | false => exact ⟨default, rfl, fun h => by cases h⟩
      | true => exact ⟨xl, exl, fun _ => rfl⟩
    have hbl : ∀ (g : Bool) (xs : List Bool) (i : Nat), xs.length = 4 → i < 4 → WP (whn g default (idx xs (i : Int))) (fun _ => True) := by
      intro g xs i h4 hi
      cases g with
      | false => exact ⟨default, rfl, trivial⟩
      | true => obtain ⟨y, ey, _⟩ := idx_ex (xs := xs) (i := (i : Int)) (by omega); exact ⟨y, ey, trivial⟩
    refine wp_bind _ (hbl _ f2 a j3 (by omega)) fun x10 _ => wp_bind _ (hbl _ to2 b j4 (by omega)) fun x12 _ => wp_bind _ (h14 _) fun x14 e14 => ?_
    refine wp_ite (fun hg => ?_) (fun _ => go _ _ _ _ hk (by omega) j3 j4)
    have e := e14 hg
    subst e
    have lo := hp.ln x14 mxl
    have := lo.pos
    have := lo.few
    obtain ⟨yl, eyl, myl⟩ := idx_ex (xs := p.Lines) (i := (b : Int)) (by omega)
    have lo2 := (hp.ln yl myl).pos
    refine wp_i64 (by omega) (wp_bind _ (stop_wp (p := Plan.mk p.Period p.Stocks p.Routes p.Lines p.Changes tn2 p.Syncs p.Demands) hp exl mxl (by omega)) fun y19 _ => wp_bind _ (start_wp (p := Plan.mk p.Period p.Stocks p.Routes p.Lines p.Changes tn2 p.Syncs p.Demands) hp eyl myl (by omega)) fun y21 _ => ?_)
    refine wp_ite (fun _ => ?_) (fun _ => go _ _ _ _ hk (by omega) j3 j4)
    refine wp_idxm (by omega) fun _ _ => wp_idxm (by omega) fun _ _ => ?_
    obtain ⟨y, k4, ey, y0, y1, hk4⟩ := next_m hk 10 (by omega) (by omega)
    rw [ey, Option.bind_some]
    refine wp_i64 (by simp only; omega) ?_
    obtain ⟨z, k5, ez, z0, z1, hk5⟩ := next_m hk4 30 (by omega) (by omega)
    rw [ez, Option.bind_some]
    refine wp_i64 (by simp only; omega) (wp_chk (by simp; omega) (go _ _ _ _ hk5 (by simp; omega) (by simp; omega) (by simp; omega)))
  · unfold keep_turns_k1
    exact hc _ ⟨j1, by simp only; omega, j3, j4, by simp only; omega⟩ (by simp only; omega)

/-! ### The plan -/
def PlanL (_ : List Int) (y : Layout × Plan) : Prop := GenL y.1 ∧ POk y.1.Sections.length y.2.Routes y.2.Lines

theorem plan_wp (l : List Int) (hl : l.length ≤ 140737488355328) : WP (keep_Plan_m l) (PlanL l) := by
  unfold keep_Plan_m
  have e : keep_From_m l = some ⟨l, 0⟩ := rfl
  rw [e, Option.bind_some]
  refine wp_bind _ (row_wp (l := l) ⟨by omega, by omega, hl⟩) ?_
  rintro ⟨b, p0⟩ ro
  have R := rowS_of ro
  have hg : GenL b.l := by
    obtain ⟨_, hr, ts, bs, h1, h2, h3, h4, h5, _⟩ := ro
    exact ⟨hr, (ts, bs), mem_shapes h1 h2 h3 h4, h5⟩
  have r0 := ro.src
  simp only at r0 R ⊢
  have hb1 := R.b1
  have hb2 := R.b2
  have hst := R.st
  have htb := R.tb
  obtain ⟨a1, p1, e1, l1, u1, r1⟩ := next_m r0 6 (by omega) (by omega)
  rw [e1, Option.bind_some]
  refine wp_idxm (by simp; omega) fun per hper => ?_
  have hper' : 90 ≤ per ∧ per ≤ 300 := by
    simp only [List.mem_cons, List.not_mem_nil, or_false] at hper
    omega
  obtain ⟨a2, p2, e2, l2, u2, r2⟩ := next_m r1 2 (by omega) (by omega)
  rw [e2, Option.bind_some]
  refine wp_i64 (by simp only; omega) ?_
  obtain ⟨a3, p3, e3, l3, u3, r3⟩ := next_m r2 4 (by omega) (by omega)
  rw [e3, Option.bind_some]
  refine wp_i64 (by simp only; omega) (wp_i64 (by simp only; omega) ?_)
  obtain ⟨a4, p4, e4, l4, u4, r4⟩ := next_m r3 3 (by omega) (by omega)
  rw [e4, Option.bind_some]
  refine wp_i64 (by simp only; omega) (wp_i64 (by simp only; omega) ?_)
  obtain ⟨a5, p5, e5, l5, u5, r5⟩ := next_m r4 3 (by omega) (by omega)
  rw [e5, Option.bind_some]
  refine wp_i64 (by simp only; omega) (wp_i64 (by simp only; omega) ?_)
  unfold keep_Plan_k1
  obtain ⟨a6, p6, e6, l6, u6, r6⟩ := next_m r5 3 (by omega) (by omega)
  simp only
  rw [e6, Option.bind_some]
  refine wp_i64 (by simp only; omega) ?_
  refine wp_iter (fun (q : Int × List Route × List Line × Int) => SrcOk l q.1 ∧ POk b.l.Sections.length q.2.1 q.2.2.1 ∧ (q.2.2.1.length : Int) + q.2.2.2 ≤ 3 ∧ 0 ≤ q.2.2.2 ∧ q.2.1.length ≤ 2 * q.2.2.1.length ∧ (0 < q.2.2.2 ∨ 0 < q.2.2.1.length)) (fun q => q.2.2.2.toNat) _ ?_ FUEL _ ⟨r6, ⟨by simp, by simp⟩, by simp; omega, by simp only; omega, by simp, by simp only; omega⟩ (fuel_of (by simp only; omega))
  rintro c ⟨p7, rs, ls, n⟩ ⟨i1, i2, i3, i4, i5, i6⟩ hc
  simp only at i1 i2 i3 i4 i5 i6 hc
  simp only [keep_Plan_b1]
  refine wp_ite (fun h => ?_) (fun h => ?_)
  · simp only [decide_eq_true_eq] at h
    obtain ⟨a8, p8, e8, l8, u8, r8⟩ := next_m i1 2 (by omega) (by omega)
    rw [e8, Option.bind_some]
    obtain ⟨a9, p9, e9, l9, u9, r9⟩ := next_m r8 (b.between.length : Int) (by omega) (by omega)
    rw [e9, Option.bind_some]
    refine wp_i64 (by simp only; omega) ?_
    refine wp_bind _ (line_wp R (p := Plan.mk _ _ rs ls _ _ _ _) r9 i2 (by simp only; omega) (by simp only; omega) (by omega)) ?_
    rintro ⟨p10, rs2, ls2⟩ ⟨q1, q2, q3, q4⟩
    simp only at q1 q2 q3 q4 ⊢
    exact wp_i64 (by omega) (hc _ ⟨q1, q2, by simp only; omega, by simp only; omega, by simp only; omega, by simp only; omega⟩ (by simp only; omega))
  · simp only [decide_eq_false_iff_not] at h
    unfold keep_Plan_k2
    refine wp_bind _ (turns_wp (p := Plan.mk _ _ rs ls _ _ _ _) i1 i2 (by simp only; omega) rfl) ?_
    rintro ⟨p11, tn⟩ ⟨t1, t2⟩
    simp only at t1 t2 ⊢
    obtain ⟨a12, p12, e12, l12, u12, r12⟩ := next_m t1 3 (by omega) (by omega)
    rw [e12, Option.bind_some]
    refine wp_iter (fun (q : Int × List Change × Int) => SrcOk l q.1 ∧ (q.2.1.length : Int) + q.2.2 ≤ 3 ∧ 0 ≤ q.2.2) (fun q => q.2.2.toNat) _ ?_ FUEL _ ⟨r12, by simp; omega, by simp only; omega⟩ (fuel_of (by simp only; omega))
    rintro c2 ⟨p13, ch, k2⟩ ⟨j1, j2, j3⟩ hc2
    simp only at j1 j2 j3 hc2
    simp only [keep_Plan_b2]
    refine wp_ite (fun hk => ?_) (fun hk => ?_)
    · simp only [Bool.and_eq_true, decide_eq_true_eq] at hk
      obtain ⟨a14, p14, e14, l14, u14, r14⟩ := next_m j1 (ls.length : Int) (by omega) (by omega)
      rw [e14, Option.bind_some]
      obtain ⟨a15, p15, e15, l15, u15, r15⟩ := next_m r14 3 (by omega) (by omega)
      rw [e15, Option.bind_some]
      have tr := tmod_rng (a := a14 + 1) (n := ls.length) (by omega) (by omega)
      obtain ⟨x1, ex1, mx1⟩ := idx_ex (xs := ls) (i := a14) (by omega)
      obtain ⟨x2, ex2, mx2⟩ := idx_ex (xs := ls) (i := (a14 + 1).tmod (ls.length : Int)) tr
      have o1 := i2.ln x1 mx1
      have o2 := i2.ln x2 mx2
      have o1p := o1.pos
      have o2p := o2.pos
      have o1f := o1.few
      have o2f := o2.few
      simp only
      refine wp_i64 (by omega) (wp_chk (by simp only [decide_eq_true_eq]; omega) ?_)
      rw [ex1, Option.bind_some, ex2, Option.bind_some]
      obtain ⟨a16, p16, e16, l16, u16, r16⟩ := next_m r15 (x1.Rides.length : Int) (by omega) (by omega)
      rw [e16, Option.bind_some]
      obtain ⟨a17, p17, e17, l17, u17, r17⟩ := next_m r16 (x2.Rides.length : Int) (by omega) (by omega)
      simp only
      rw [e17, Option.bind_some]
      obtain ⟨a18, p18, e18, l18, u18, r18⟩ := next_m r17 20 (by omega) (by omega)
      simp only
      rw [e18, Option.bind_some]
      obtain ⟨a19, p19, e19, l19, u19, r19⟩ := next_m r18 per (by omega) (by omega)
      simp only
      rw [e19, Option.bind_some]
      refine wp_i64 (by simp only; omega) (wp_bind _ (stop_wp (p := Plan.mk _ _ rs ls _ _ _ _) i2 ex1 mx1 (by omega)) fun y76 h76 => wp_idxm h76 fun x78 _ => wp_bind _ (start_wp (p := Plan.mk _ _ rs ls _ _ _ _) i2 ex2 mx2 (by omega)) fun y80 h80 => wp_idxm h80 fun x82 _ => ?_)
      refine wp_ite (fun _ => wp_chk (by simp; omega) ?_) (fun _ => ?_)
      · unfold keep_Plan_k4
        exact wp_i64 (by omega) (hc2 _ ⟨r19, by simp; omega, by simp only; omega⟩ (by simp only; omega))
      · unfold keep_Plan_k4
        exact wp_i64 (by omega) (hc2 _ ⟨r19, by simp only; omega, by simp only; omega⟩ (by simp only; omega))
    · unfold keep_Plan_k3
      obtain ⟨a20, p20, e20, l20, u20, r20⟩ := next_m j1 4 (by omega) (by omega)
      rw [e20, Option.bind_some]
      have last : ∀ (q : Int) (sy : List Sync), SrcOk l q → WP (keep_Plan_k5 ⟨l, 0⟩ (b, p0) per ([(Stock.mk (⟨[88]⟩ : Str) (1 + a2) (10000 + (5000 * a3)) (400 + (200 * a4)) (400 + (200 * a5)))] : List Stock) rs ls ch (p11, tn) (q, sy)) (PlanL l) := by
        intro q sy hq
        unfold keep_Plan_k5
        obtain ⟨a21, p21, e21, l21, u21, r21⟩ := next_m hq 3 (by omega) (by omega)
        simp only
        rw [e21, Option.bind_some]
        refine wp_iter (fun (q : Int × List Demand × Int) => SrcOk l q.1 ∧ (q.2.1.length : Int) + q.2.2 ≤ 3 ∧ 0 ≤ q.2.2) (fun q => q.2.2.toNat) _ ?_ FUEL _ ⟨r21, by simp; omega, by simp only; omega⟩ (fuel_of (by simp only; omega))
        rintro c3 ⟨p22, dm, k3⟩ ⟨m1, m2, m3⟩ hc3
        simp only at m1 m2 m3 hc3
        simp only [keep_Plan_b3]
        refine wp_ite (fun hk3 => ?_) (fun hk3 => ?_)
        · simp only [decide_eq_true_eq] at hk3
          obtain ⟨a23, p23, e23, l23, u23, r23⟩ := next_m m1 (b.l.Stations.length : Int) (by omega) (by omega)
          rw [e23, Option.bind_some]
          refine wp_i64 (by simp only; omega) (wp_i64 (by omega) ?_)
          obtain ⟨a24, p24, e24, l24, u24, r24⟩ := next_m r23 ((b.l.Stations.length : Int) - 1) (by omega) (by omega)
          rw [e24, Option.bind_some]
          refine wp_i64 (by simp only; omega) (wp_chk (by simp only [decide_eq_true_eq]; omega) ?_)
          obtain ⟨a25, p25, e25, l25, u25, r25⟩ := next_m r24 9 (by omega) (by omega)
          rw [e25, Option.bind_some]
          exact wp_i64 (by simp only; omega) (wp_chk (by simp; omega) (wp_i64 (by omega) (hc3 _ ⟨r25, by simp; omega, by simp only; omega⟩ (by simp only; omega))))
        · unfold keep_Plan_k6
          exact wp_some ⟨hg, i2⟩
      refine wp_ite (fun _ => ?_) (fun _ => last _ _ r20)
      obtain ⟨a26, p26, e26, l26, u26, r26⟩ := next_m r20 per (by omega) (by omega)
      rw [e26, Option.bind_some]
      exact wp_chk (by simp) (last _ _ r26)
end Go.Proofs.YtcalibhfgdncaaaGreatDoor

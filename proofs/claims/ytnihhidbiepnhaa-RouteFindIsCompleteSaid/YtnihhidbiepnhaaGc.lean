/- Plain laws: the routes that follow the hops of a valid layout. -/
import Derived.Test.YtnihhidbiepnhaaTp
import Derived.Test.YtnihhidbiepnhaaTb
import Derived.Test.YtnihhidbiepnhaaRm
namespace Go.Proofs.Ytnihhidbiepnhaa
open Go.Dc

theorem hop_step {l : Layout} (v : Val l) {a : Step} {h : Hop} (hm : h ∈ hopsF l a) : isS l h.To = true := by
  unfold hopsF at hm
  obtain ⟨k, hk, e⟩ := List.mem_filterMap.1 hm
  obtain ⟨ha, hb, hae, hbe, _⟩ := v.links k hk
  have key : ∀ x y : Int, 0 ≤ x → x < l.Sections.length → hopTo k x y = some h → isS l h.To = true := by
    intro x y h0 h1 e
    unfold hopTo at e
    rw [if_pos h0] at e
    cases e
    unfold isS
    simp only
    by_cases hy : y = 1 <;> simp [hy, h0, h1]
  unfold hopF at e
  generalize (if a.Dir = 1 then (0 : Int) else 1) = z at e
  by_cases c1 : k.A = a.Section ∧ k.AEnd = z
  · rw [if_pos c1] at e; exact key _ _ hb.1 hb.2 e
  · rw [if_neg c1] at e
    by_cases c2 : k.B = a.Section ∧ k.BEnd = z
    · rw [if_pos c2] at e; exact key _ _ ha.1 ha.2 e
    · rw [if_neg c2] at e; cases e
theorem hop_tr {l : Layout} (v : Val l) {a : Step} (ha : isS l a = true) {h : Hop} (hm : h ∈ hopsF l a) : (tr l a h.To).2 = true := by
  rw [join_tr v ha (hop_step v hm)]
  unfold joinF
  cases e : (hopsF l a).find? (fun q => decide (q.To = h.To)) with
  | none => have := List.find?_eq_none.1 e h hm; simp at this
  | some q => rfl

theorem dupAt_snoc : ∀ (ss : List Step) (seen : List Int) (b : Step), dupAt seen (ss ++ [b]) = (dupAt seen ss || decide (b.Section ∈ seen ∨ b.Section ∈ ss.map (·.Section)))
  | [], seen, b => by simp [dupAt]
  | a :: ss, seen, b => by
    rw [List.cons_append]
    simp only [dupAt]
    rw [dupAt_snoc ss (a.Section :: seen) b, Bool.or_assoc]
    congr 2
    rw [decide_eq_decide]
    simp only [List.mem_cons, List.map_cons]
    constructor
    · rintro ((h | h) | h)
      · exact Or.inr (Or.inl h)
      · exact Or.inl h
      · exact Or.inr (Or.inr h)
    · rintro (h | h | h)
      · exact Or.inl (Or.inr h)
      · exact Or.inl (Or.inl h)
      · exact Or.inr h

theorem ptsF_snoc (l : Layout) : ∀ (ss : List Step) (a b : Step) (q : List Int), ptsF l a ss = some q → (tr l ((a :: ss).getLast (by simp)) b).2 = true → ∃ q', ptsF l a (ss ++ [b]) = some q'
  | [], a, b, q, _, h => by
    simp at h
    exact ⟨_, by simp [ptsF, h]; rfl⟩
  | c :: ss, a, b, q, h1, h2 => by
    unfold ptsF at h1
    by_cases ht : (tr l a c).2 = true
    · rw [if_pos ht] at h1
      cases hp : ptsF l c ss with
      | none => rw [hp] at h1; cases h1
      | some q2 =>
        obtain ⟨q', hq'⟩ := ptsF_snoc l ss c b q2 hp (by simpa using h2)
        exact ⟨_, by rw [List.cons_append]; unfold ptsF; rw [if_pos ht, hq']; rfl⟩
    · rw [if_neg ht] at h1; cases h1

structure Good (l : Layout) (ss : List Step) : Prop where
  st : ∀ s ∈ ss, isS l s = true
  dup : dupAt [] ss = false
  pts : ∃ q, ptsL l ss = some q

theorem good_snoc {l : Layout} (v : Val l) {ss : List Step} (g : Good l ss) {a : Step} (ha : ss.getLast? = some a) {h : Hop} (hm : h ∈ hopsF l a) (hd : h.To.Section ∉ ss.map (·.Section)) : Good l (ss ++ [h.To]) := by
  obtain ⟨g1, g2, q, hq⟩ := g
  have ham : a ∈ ss := List.mem_of_getLast? ha
  refine ⟨?_, ?_, ?_⟩
  · intro s hs
    rcases List.mem_append.1 hs with h1 | h1
    · exact g1 s h1
    · rw [List.mem_singleton] at h1; subst h1; exact hop_step v hm
  · rw [dupAt_snoc, g2]; simpa using hd
  · cases ss with
    | nil => simp at ham
    | cons b ss =>
      have : (b :: ss).getLast (by simp) = a := by
        have := List.getLast?_eq_some_getLast (l := b :: ss) (by simp)
        rw [this] at ha; exact Option.some.inj ha
      exact ptsF_snoc l ss b h.To q hq (by rw [this]; exact hop_tr v (g1 a ham) hm)

structure RouteG (l : Layout) (r : Route) : Prop where
  good : Good l r.Steps
  len : 1 ≤ r.Steps.length ∧ r.Steps.length ≤ 7
  ov : 0 ≤ r.Overlap ∧ r.Overlap ≤ 2
  two : 2 ≤ r.Steps.length → 2 ≤ (r.Steps.length : Int) - r.Overlap

theorem route_end {l : Layout} {c : List Int} {pos : Int} (hp : SrcOk c pos) {ss : List Step} (g : Good l ss) (h1 : 1 ≤ ss.length ∧ ss.length ≤ 7) (y : Keep_Source) (hy : y.l = c) : WP (keep_Route_k1 y (pos, ss)) (RouteG l) := by
  simp only [keep_Route_k1]
  refine wp_i64 (by omega) ?_
  obtain ⟨v, j, ev, v0, v1, hj⟩ := next_m hp 3 (by omega) (by omega)
  rw [hy, ev, Option.bind_some]
  refine wp_some ⟨g, h1, ?_, ?_⟩
  · simp only; split <;> split <;> omega
  · intro h2; simp only at h2 ⊢; split <;> split <;> omega

theorem route_inner (ss : List Step) (x : Hop) (c1 : (Int × (List Step) × Int × Int × Int) → Option Route) (y : Int × Int) (n : Int) (hl : ss.length ≤ 1000) :
    iter (keep_Route_b2 ss x c1 y) FUEL (n, 0) = keep_Route_k3 (if x.To.Section ∈ ss.map (·.Section) then 0 else n) ss x c1 y () := by
  have := iter_list (B := keep_Route_b2 ss x c1 y) (fun (q : Int) i => (q, i)) ss (fun _ _ => True) (fun q r => keep_Route_k3 (if x.To.Section ∈ r.map (·.Section) then 0 else q) ss x c1 y ()) ?_ ?_ FUEL n 0 trivial (by omega) (fuel_of (by omega))
  · simpa using this
  · intro c q i a r _ hdr hi hx hc
    simp only [keep_Route_b2]
    rw [if_pos (by simp; omega), hx, Option.bind_some]
    by_cases e : a.Section = x.To.Section
    · rw [if_pos (by simpa using e)]
      simp only [keep_Route_k4]
      rw [hc 0 trivial]
      congr 1
      simp [e]
    · rw [if_neg (by simpa using e)]
      simp only [keep_Route_k4]
      rw [hc q trivial]
      congr 1
      have e' : ¬ x.To.Section = a.Section := fun h => e h.symm
      simp [e']
  · intro c q _
    simp only [keep_Route_b2]
    rw [if_neg (by simp)]
    simp

theorem route_wp {l : Layout} (v : Val l) (c : List Int) (hc : c.length ≤ 140737488355328) : WP (keep_Route_m l c) (RouteG l) := by
  have hf := v.full
  unfold keep_Route_m
  have e : keep_From_m c = some ⟨c, 0⟩ := rfl
  rw [e, Option.bind_some]
  obtain ⟨v1, j1, e1, a1, b1, o1⟩ := next_m (l := c) (i := 0) ⟨by omega, by omega, hc⟩ (l.Sections.length : Int) (by omega) (by omega)
  obtain ⟨v2, j2, e2, a2, b2, o2⟩ := next_m o1 2 (by omega) (by omega)
  obtain ⟨v3, j3, e3, a3, b3, o3⟩ := next_m o2 6 (by omega) (by omega)
  rw [e1, Option.bind_some]; simp only
  rw [e2, Option.bind_some]; simp only
  refine wp_chk (by simp) ?_
  rw [e3, Option.bind_some]; simp only
  refine wp_i64 (by omega) ?_
  refine wp_iter (fun (s : Int × (List Step) × Int × Int × Int) => SrcOk c s.1 ∧ Good l s.2.1 ∧ 1 ≤ s.2.1.length ∧ s.2.1.length ≤ 7 ∧ (0 < s.2.2.2.2 → s.2.1.getLast? = some ⟨s.2.2.1, s.2.2.2.1⟩ ∧ (s.2.1.length : Int) + s.2.2.2.2 ≤ 7) ∧ -1 ≤ s.2.2.2.2 ∧ s.2.2.2.2 ≤ 6) (fun s => s.2.2.2.2.toNat) _ ?_ FUEL _ ?_ (fuel_of (by simp only; omega))
  · rintro k ⟨p, ss, x0, x1, n⟩ ⟨h1, g, h2, h3, h4, h5, h6⟩ hk
    simp only at h1 g h2 h3 h4 h5 h6 hk
    simp only [keep_Route_b1]
    refine wp_ite (fun hn => ?_) (fun hn => ?_)
    · have hn : 0 < n := by simpa using hn
      obtain ⟨hlast, hlen⟩ := h4 hn
      rw [hops_r l _ (by omega), Option.bind_some]
      refine wp_ite (fun h0 => ?_) (fun h0 => ?_)
      · exact route_end h1 g ⟨h2, h3⟩ _ rfl
      · have h0 : (hopsF l ⟨x0, x1⟩).length ≠ 0 := by simp at h0; simpa using h0
        have hll : (hopsF l ⟨x0, x1⟩).length ≤ 192 := Nat.le_trans (List.length_filterMap_le _ _) hf.2.2.2.1
        obtain ⟨w, j, ew, w0, w1, hj⟩ := next_m h1 ((hopsF l ⟨x0, x1⟩).length : Int) (by omega) (by omega)
        rw [ew, Option.bind_some]; simp only
        obtain ⟨x, hx⟩ : ∃ x, (hopsF l ⟨x0, x1⟩)[w.toNat]? = some x := ⟨_, List.getElem?_eq_getElem (by omega)⟩
        refine wp_idx w0 hx ?_
        have hxm : x ∈ hopsF l ⟨x0, x1⟩ := List.mem_of_getElem? hx
        rw [route_inner _ _ _ _ _ (by omega)]
        simp only [keep_Route_k3]
        by_cases hd : x.To.Section ∈ ss.map (·.Section)
        · rw [if_pos hd, if_neg (by simp)]
          simp only [keep_Route_k2]
          refine wp_i64 (by omega) (hk _ ⟨hj, g, h2, h3, fun h => by simp only at h; omega, by simp only; omega, by simp only; omega⟩ (by simp only; omega))
        · rw [if_neg hd, if_pos (by simpa using hn)]
          refine wp_chk (by simp; omega) ?_
          simp only [keep_Route_k2]
          refine wp_i64 (by omega) (hk _ ⟨hj, good_snoc v g hlast hxm hd, by simp, by simp; omega, fun h => ⟨by simp, by simp at h ⊢; omega⟩, by simp only; omega, by simp only; omega⟩ (by simp only; omega))
    · exact route_end h1 g ⟨h2, h3⟩ _ rfl
  · refine ⟨o3, ⟨?_, rfl, [], rfl⟩, by simp, by simp, fun _ => ⟨by simp, by simp; omega⟩, by simp only; omega, by simp only; omega⟩
    intro s hs
    simp at hs
    subst hs
    unfold isS
    have : v2 = 0 ∨ v2 = 1 := by omega
    simp [a1, b1, this]

end Go.Proofs.Ytnihhidbiepnhaa

/- Plain laws: the routes that follow the hops of a valid layout. -/
import Derived.Test.YtnihhidbiepnhaaTp
import Derived.Test.YtnihhidbiepnhaaTb
import Derived.Test.YtnihhidbiepnhaaRm
namespace Go.Proofs.Ytnihhidbiepnhaa
open Go.Dc

theorem hop_step {l : Layout} (v : Val l) {a : Step} {h : Hop} (hm : h ∈ hopsF l a) : isS l h.To = true := by
  unfold hopsF at hm
  obtain ⟨k, hk, e⟩ := List.mem_filterMap.1 hm
  obtain ⟨ha, hb, hae, hbe, _⟩ := v.links k hk
  have key : ∀ x y : Int, 0 ≤ x → x < l.Sections.length → hopTo k x y = some h → isS l h.To = true := by
    intro x y h0 h1 e
    unfold hopTo at e
    rw [if_pos h0] at e
    cases e
    unfold isS
    simp only
    by_cases hy : y = 1 <;> simp [hy, h0, h1]
  unfold hopF at e
  generalize (if a.Dir = 1 then (0 : Int) else 1) = z at e
  by_cases c1 : k.A = a.Section ∧ k.AEnd = z
  · rw [if_pos c1] at e; exact key _ _ hb.1 hb.2 e
  · rw [if_neg c1] at e
    by_cases c2 : k.B = a.Section ∧ k.BEnd = z
    · rw [if_pos c2] at e; exact key _ _ ha.1 ha.2 e
    · rw [if_neg c2] at e; cases e
theorem hop_tr {l : Layout} (v : Val l) {a : Step} (ha : isS l a = true) {h : Hop} (hm : h ∈ hopsF l a) : (tr l a h.To).2 = true := by
  rw [join_tr v ha (hop_step v hm)]
  unfold joinF
  cases e : (hopsF l a).find? (fun q => decide (q.To = h.To)) with
  | none => have := List.find?_eq_none.1 e h hm; simp at this
  | some q => rfl

theorem dupAt_snoc : ∀ (ss : List Step) (seen : List Int) (b : Step), dupAt seen (ss ++ [b]) = (dupAt seen ss || decide (b.Section ∈ seen ∨ b.Section ∈ ss.map (·.Section)))
  | [], seen, b => by simp [dupAt]
  | a :: ss, seen, b => by
    rw [List.cons_append]
    simp only [dupAt]
    rw [dupAt_snoc ss (a.Section :: seen) b, Bool.or_assoc]
    congr 2
    rw [decide_eq_decide]
    simp only [List.mem_cons, List.map_cons]
    constructor
    · rintro ((h | h) | h)
      · exact Or.inr (Or.inl h)
      · exact Or.inl h
      · exact Or.inr (Or.inr h)
    · rintro (h | h | h)
      · exact Or.inl (Or.inr h)
      · exact Or.inl (Or.inl h)
      · exact Or.inr h

theorem ptsF_snoc (l : Layout) : ∀ (ss : List Step) (a b : Step) (q : List Int), ptsF l a ss = some q → (tr l ((a :: ss).getLast (by simp)) b).2 = true → ∃ q', ptsF l a (ss ++ [b]) = some q'
  | [], a, b, q, _, h => by
    simp at h
    exact ⟨_, by simp [ptsF, h]; rfl⟩
  | c :: ss, a, b, q, h1, h2 => by
    unfold ptsF at h1
    by_cases ht : (tr l a c).2 = true
    · rw [if_pos ht] at h1
      cases hp : ptsF l c ss with
      | none => rw [hp] at h1; cases h1
      | some q2 =>
        obtain ⟨q', hq'⟩ := ptsF_snoc l ss c b q2 hp (by simpa using h2)
        exact ⟨_, by rw [List.cons_append]; unfold ptsF; rw [if_pos ht, hq']; rfl⟩
    · rw [if_neg ht] at h1; cases h1

structure Good (l : Layout) (ss : List Step) : Prop where
  st : ∀ s ∈ ss, isS l s = true
  dup : dupAt [] ss = false
  pts : ∃ q, ptsL l ss = some q

theorem good_snoc {l : Layout} (v : Val l) {ss : List Step} (g : Good l ss) {a : Step} (ha : ss.getLast? = some a) {h : Hop} (hm : h ∈ hopsF l a) (hd : h.To.Section ∉ ss.map (·.Section)) : Good l (ss ++ [h.To]) := by
  obtain ⟨g1, g2, q, hq⟩ := g
  have ham : a ∈ ss := List.mem_of_getLast? ha
  refine ⟨?_, ?_, ?_⟩
  · intro s hs
    rcases List.mem_append.1 hs with h1 | h1
    · exact g1 s h1
    · rw [List.mem_singleton] at h1; subst h1; exact hop_step v hm
  · rw [dupAt_snoc, g2]; simpa using hd
  · cases ss with
    | nil => simp at ham
    | cons b ss =>
      have : (b :: ss).getLast (by simp) = a := by
        have := List.getLast?_eq_some_getLast (l := b :: ss) (by simp)
        rw [this] at ha; exact Option.some.inj ha
      exact ptsF_snoc l ss b h.To q hq (by rw [this]; exact hop_tr v (g1 a ham) hm)

structure RouteG (l : Layout) (r : Route) : Prop where
  good : Good l r.Steps
  len : 1 ≤ r.Steps.length ∧ r.Steps.length ≤ 7
  ov : 0 ≤ r.Overlap ∧ r.Overlap ≤ 2
  two : 2 ≤ r.Steps.length → 2 ≤ (r.Steps.length : Int) - r.Overlap

end Go.Proofs.Ytnihhidbiepnhaa

/- What is found in generated layouts: few sequences, all different, valid routes, and all of them. -/
import Derived.Test.YtnihhidbiepnhaaUb
import Derived.Test.YtnihhidbiepnhaaGb
namespace Go.Proofs.Ytnihhidbiepnhaa
open Go.Dc

/-! ### How many -/
def cntL (f : List Step → Nat) (p : List Step) : List Hop → Nat
  | [] => 0
  | h :: hs => if h.To.Section ∈ secsP p then cntL f p hs else 1 + f (p ++ [h.To]) + cntL f p hs
def cnt (hp : Step → List Hop) : Nat → List Step → Nat
  | 0 => fun _ => 0
  | n + 1 => fun p => cntL (cnt hp n) p (hp (p.getLastD default))
theorem visL_cnt {f : List Step → List (List Step)} {g : List Step → Nat} (to_ : Int) (hf : ∀ p, (f p).length ≤ g p) (p : List Step) : ∀ hs : List Hop, (visL f to_ p hs).length ≤ cntL g p hs
  | [] => Nat.le_refl _
  | h :: hs => by
    have ih := visL_cnt to_ hf p hs
    unfold visL cntL
    by_cases h1 : h.To.Section ∈ secsP p
    · rw [if_pos h1, if_pos h1]; exact ih
    · rw [if_neg h1, if_neg h1]
      have := hf (p ++ [h.To])
      by_cases h3 : h.To.Section = to_
      · rw [if_pos h3]; simp; omega
      · rw [if_neg h3]; simp; omega
theorem vis_cnt (hp : Step → List Hop) (to_ : Int) : ∀ (n : Nat) (p : List Step), (vis hp to_ n p).length ≤ cnt hp n p
  | 0, _ => Nat.le_refl _
  | n + 1, p => visL_cnt to_ (vis_cnt hp to_ n) p _

def stepsOf (n : Nat) : List Step := (List.range n).flatMap fun (i : Nat) => [⟨(i : Int), 0⟩, ⟨(i : Int), 1⟩]
theorem steps_mem {l : Layout} {s : Step} (h : isS l s = true) : s ∈ stepsOf l.Sections.length := by
  obtain ⟨h0, h1, h2⟩ := isS_rng h
  unfold stepsOf
  rw [List.mem_flatMap]
  refine ⟨s.Section.toNat, by simp; omega, ?_⟩
  obtain ⟨a, d⟩ := s
  have : ((a.toNat : Nat) : Int) = a := Int.toNat_of_nonneg h0
  simp only at h2 this ⊢
  rw [this]
  rcases h2 with rfl | rfl <;> simp

def okShape (l : Layout) : Bool := (stepsOf l.Sections.length).all fun s => decide (cnt (hopsF l) 23 [s] ≤ 998) && decide (((hopsF l s).map (·.To)).Nodup)
theorem shapes_few : shapes.all (fun p => okShape (shape p.1 p.2)) = true := by decide +kernel

theorem gen_few {l : Layout} (g : GenL l) {s : Step} (h : isS l s = true) : cnt (hopsF l) 23 [s] ≤ 998 ∧ ((hopsF l s).map (·.To)).Nodup := by
  obtain ⟨p, hp, e⟩ := g.ex
  have h1 := List.all_eq_true.1 shapes_few p hp
  have hlen : (shape p.1 p.2).Sections.length = l.Sections.length := by rw [← e]; simp [erase]
  have hhop : hopsF (shape p.1 p.2) = hopsF l := by rw [← e]; rfl
  have h2 := List.all_eq_true.1 h1 s (by rw [hlen]; exact steps_mem h)
  rw [hhop] at h2
  simp only [Bool.and_eq_true, decide_eq_true_eq] at h2
  exact h2

/-! ### All different -/
/-! ### Valid routes -/
/-! ### All of them -/
theorem dup_nodup : ∀ (ss : List Step) (seen : List Int), dupAt seen ss = false → (secsP ss).Nodup ∧ ∀ x ∈ secsP ss, x ∉ seen
  | [], _, _ => ⟨by simp [secsP], by simp [secsP]⟩
  | s :: ss, seen, h => by
    unfold dupAt at h
    simp only [Bool.or_eq_false_iff, decide_eq_false_iff_not] at h
    obtain ⟨h1, h2⟩ := dup_nodup ss _ h.2
    refine ⟨?_, ?_⟩
    · show (s.Section :: secsP ss).Nodup
      rw [List.nodup_cons]
      exact ⟨fun hm => h2 _ hm List.mem_cons_self, h1⟩
    · intro x hx
      rcases List.mem_cons.1 (show x ∈ s.Section :: secsP ss from hx) with rfl | hx
      · exact h.1
      · exact fun hm => h2 x hx (List.mem_cons_of_mem _ hm)

theorem pts_adj (l : Layout) : ∀ (p : List Step) (c a b : Step) (r : List Step) (q : List Int), ptsF l c (p ++ a :: b :: r) = some q → (tr l a b).2 = true
  | [], c, a, b, r, q, h => by
    simp only [List.nil_append, ptsF] at h
    split at h
    · split at h
      · assumption
      · simp at h
    · cases h
  | x :: p, c, a, b, r, q, h => by
    simp only [List.cons_append, ptsF] at h
    split at h
    · cases hp : ptsF l x (p ++ a :: b :: r) with
      | none => rw [hp] at h; cases h
      | some z => exact pts_adj l p x a b r z hp
    · cases h
theorem ptsL_adj (l : Layout) (p : List Step) (a b : Step) (r : List Step) (q : List Int) (h : ptsL l (p ++ a :: b :: r) = some q) : (tr l a b).2 = true := by
  cases p with
  | nil =>
    simp only [List.nil_append, ptsL, ptsF] at h
    split at h
    · assumption
    · cases h
  | cons c p => exact pts_adj l p c a b r q h

theorem tr_hop {l : Layout} (v : Val l) {a b : Step} (ha : isS l a = true) (hb : isS l b = true) (h : (tr l a b).2 = true) : ∃ x ∈ hopsF l a, x.To = b := by
  rw [join_tr v ha hb] at h
  unfold joinF at h
  cases hf : (hopsF l a).find? (fun h => decide (h.To = b)) with
  | none => rw [hf] at h; cases h
  | some x => exact ⟨x, List.mem_of_find?_eq_some hf, by simpa using List.find?_some hf⟩

theorem visL_intro {f : List Step → List (List Step)} {to_ : Int} {p q : List Step} {h : Hop} : ∀ {hs : List Hop}, h ∈ hs → h.To.Section ∉ secsP p → (q = p ++ [h.To] ∨ (h.To.Section ≠ to_ ∧ q ∈ f (p ++ [h.To]))) → q ∈ visL f to_ p hs
  | [], hm, _, _ => by simp at hm
  | x :: hs, hm, hn, hq => by
    unfold visL
    rcases List.mem_cons.1 hm with rfl | hm
    · rw [if_neg hn]
      rcases hq with rfl | ⟨h1, h2⟩
      · exact List.mem_cons_self
      · rw [if_neg h1]
        exact List.mem_cons_of_mem _ (List.mem_append.2 (.inl h2))
    · have ih := visL_intro (to_ := to_) (f := f) hm hn hq
      by_cases h1 : x.To.Section ∈ secsP p
      · rw [if_pos h1]; exact ih
      · rw [if_neg h1]
        exact List.mem_cons_of_mem _ (List.mem_append.2 (.inr ih))

theorem vis_all {l : Layout} (v : Val l) (to_ : Int) : ∀ (r : List Step) (n : Nat) (p : List Step) (a b : Step), Good l (p ++ a :: b :: r) → r.length + 1 ≤ n → ((b :: r).getLastD default).Section = to_ →
    p ++ a :: b :: r ∈ vis (hopsF l) to_ n (p ++ [a])
  | r, 0, p, a, b, _, hn, _ => by omega
  | r, n + 1, p, a, b, g, hn, hto => by
    obtain ⟨g1, g2, q, g3⟩ := g
    have ha : isS l a = true := g1 a (by simp)
    have hb : isS l b = true := g1 b (by simp)
    obtain ⟨x, hx, rfl⟩ := tr_hop v ha hb (ptsL_adj l p a b r q g3)
    have hnd := (dup_nodup _ _ g2).1
    have e : p ++ a :: x.To :: r = (p ++ [a]) ++ (x.To :: r) := by simp
    have hnd' : (secsP (p ++ [a]) ++ secsP (x.To :: r)).Nodup := by rw [e] at hnd; simpa [secsP] using hnd
    rw [List.nodup_append] at hnd'
    have hni : x.To.Section ∉ secsP (p ++ [a]) := fun hm => hnd'.2.2 _ hm _ (by simp [secsP]) rfl
    show _ ∈ visL _ _ _ (hopsF l ((p ++ [a]).getLastD default))
    have hl : (p ++ [a]).getLastD default = a := by simp
    rw [hl]
    refine visL_intro hx hni ?_
    cases r with
    | nil => exact .inl (by simp)
    | cons c r =>
      refine .inr ⟨?_, ?_⟩
      · intro e2
        have h3 : (secsP (x.To :: c :: r)).Nodup := hnd'.2.1
        have h4 : x.To.Section ∉ secsP (c :: r) := (List.nodup_cons.1 h3).1
        apply h4
        rw [e2, ← hto]
        have : (x.To :: c :: r).getLastD default = (c :: r).getLastD default := by simp
        rw [this]
        exact List.mem_map.2 ⟨_, last_mem (by simp), rfl⟩
      · have := vis_all v to_ r n (p ++ [a]) x.To c (by simpa using ⟨g1, g2, q, g3⟩) (by simp at hn ⊢; omega) (by simpa using hto)
        simpa using this

/-! ### Find with a thousand units -/
theorem gen_find {l : Layout} (g : GenL l) {a : Step} (ha : isS l a = true) {to_ : Int} (h0 : 0 ≤ to_) (h1 : to_ < l.Sections.length) {b : Int} (hb1 : 1 ≤ b) (hb : b ≤ 1000) :
    findR l a to_ b = findE (if 1 + ((vis (hopsF l) to_ 23 [a]).length : Int) ≤ b then some (1 + ((vis (hopsF l) to_ 23 [a]).length : Int), outs to_ (vis (hopsF l) to_ 23 [a])) else none) := by
  unfold findR
  rw [if_neg (by simpa using gen_check g), if_neg (by simp [ha]; omega), ext_vis _ _ _ _ _ _ _ hb1, List.nil_append]
theorem gen_len {l : Layout} (g : GenL l) {a : Step} (ha : isS l a = true) (to_ : Int) : (vis (hopsF l) to_ 23 [a]).length ≤ 998 := Nat.le_trans (vis_cnt _ _ _ _) (gen_few g ha).1
theorem outs_len (to_ : Int) (L : List (List Step)) : (outs to_ L).length ≤ L.length := by
  unfold outs; rw [List.length_map]; exact List.length_filter_le _ _
theorem outs_mem {to_ : Int} {L : List (List Step)} {r : Route} (h : r ∈ outs to_ L) : r.Overlap = 0 ∧ r.Steps ∈ L ∧ (r.Steps.getLastD default).Section = to_ := by
  unfold outs at h
  simp only [List.mem_map, List.mem_filter, decide_eq_true_eq] at h
  obtain ⟨q, ⟨h1, h2⟩, rfl⟩ := h
  exact ⟨rfl, h1, h2⟩
end Go.Proofs.Ytnihhidbiepnhaa

/- What is found in generated layouts: few sequences, all different, valid routes, and all of them. -/
import Derived.Test.YtnihhidbiepnhaaUb
import Derived.Test.YtnihhidbiepnhaaGb
namespace Go.Proofs.Ytnihhidbiepnhaa
open Go.Dc

/-! ### How many -/
def cntL (f : List Step → Nat) (p : List Step) : List Hop → Nat
  | [] => 0
  | h :: hs => if h.To.Section ∈ secsP p then cntL f p hs else 1 + f (p ++ [h.To]) + cntL f p hs
def cnt (hp : Step → List Hop) : Nat → List Step → Nat
  | 0 => fun _ => 0
  | n + 1 => fun p => cntL (cnt hp n) p (hp (p.getLastD default))
theorem visL_cnt {f : List Step → List (List Step)} {g : List Step → Nat} (to_ : Int) (hf : ∀ p, (f p).length ≤ g p) (p : List Step) : ∀ hs : List Hop, (visL f to_ p hs).length ≤ cntL g p hs
  | [] => Nat.le_refl _
  | h :: hs => by
    have ih := visL_cnt to_ hf p hs
    unfold visL cntL
    by_cases h1 : h.To.Section ∈ secsP p
    · rw [if_pos h1, if_pos h1]; exact ih
    · rw [if_neg h1, if_neg h1]
      have := hf (p ++ [h.To])
      by_cases h3 : h.To.Section = to_
      · rw [if_pos h3]; simp; omega
      · rw [if_neg h3]; simp; omega
theorem vis_cnt (hp : Step → List Hop) (to_ : Int) : ∀ (n : Nat) (p : List Step), (vis hp to_ n p).length ≤ cnt hp n p
  | 0, _ => Nat.le_refl _
  | n + 1, p => visL_cnt to_ (vis_cnt hp to_ n) p _

def stepsOf (n : Nat) : List Step := (List.range n).flatMap fun (i : Nat) => [⟨(i : Int), 0⟩, ⟨(i : Int), 1⟩]
theorem steps_mem {l : Layout} {s : Step} (h : isS l s = true) : s ∈ stepsOf l.Sections.length := by
  obtain ⟨h0, h1, h2⟩ := isS_rng h
  unfold stepsOf
  rw [List.mem_flatMap]
  refine ⟨s.Section.toNat, by simp; omega, ?_⟩
  obtain ⟨a, d⟩ := s
  have : ((a.toNat : Nat) : Int) = a := Int.toNat_of_nonneg h0
  simp only at h2 this ⊢
  rw [this]
  rcases h2 with rfl | rfl <;> simp

def okShape (l : Layout) : Bool := (stepsOf l.Sections.length).all fun s => decide (cnt (hopsF l) 23 [s] ≤ 998) && decide (((hopsF l s).map (·.To)).Nodup)
theorem shapes_few : shapes.all (fun p => okShape (shape p.1 p.2)) = true := by decide +kernel

theorem gen_few {l : Layout} (g : GenL l) {s : Step} (h : isS l s = true) : cnt (hopsF l) 23 [s] ≤ 998 ∧ ((hopsF l s).map (·.To)).Nodup := by
  obtain ⟨p, hp, e⟩ := g.ex
  have h1 := List.all_eq_true.1 shapes_few p hp
  have hlen : (shape p.1 p.2).Sections.length = l.Sections.length := by rw [← e]; simp [erase]
  have hhop : hopsF (shape p.1 p.2) = hopsF l := by rw [← e]; rfl
  have h2 := List.all_eq_true.1 h1 s (by rw [hlen]; exact steps_mem h)
  rw [hhop] at h2
  simp only [Bool.and_eq_true, decide_eq_true_eq] at h2
  exact h2

/-! ### All different -/
theorem visL_nodup {f : List Step → List (List Step)} {to_ : Int} {p : List Step} : ∀ {hs : List Hop}, (hs.map (·.To)).Nodup →
    (∀ h ∈ hs, (f (p ++ [h.To])).Nodup ∧ ∀ q ∈ f (p ++ [h.To]), ∃ r, r ≠ [] ∧ q = (p ++ [h.To]) ++ r) → (visL f to_ p hs).Nodup
  | [], _, _ => by simp [visL]
  | h :: hs, hn, hf => by
    have hn' : h.To ∉ hs.map (·.To) ∧ (hs.map (·.To)).Nodup := by simpa using hn
    have ih := visL_nodup hn'.2 (fun x hx => hf x (List.mem_cons_of_mem _ hx)) (to_ := to_)
    unfold visL
    by_cases h1 : h.To.Section ∈ secsP p
    · rw [if_pos h1]; exact ih
    · rw [if_neg h1]
      have far : ∀ q ∈ visL f to_ p hs, q[p.length]? ≠ some h.To := by
        intro q hq e
        obtain ⟨x, hx, _, hq⟩ := visL_mem hq
        have : q[p.length]? = some x.To := by
          rcases hq with rfl | ⟨_, hq⟩
          · simp
          · obtain ⟨r, _, rfl⟩ := (hf x (List.mem_cons_of_mem _ hx)).2 q hq
            simp
        rw [this] at e
        exact hn'.1 (List.mem_map.2 ⟨x, hx, Option.some.inj e⟩)
      have A : (if h.To.Section = to_ then [] else f (p ++ [h.To])).Nodup ∧ ∀ q ∈ (if h.To.Section = to_ then [] else f (p ++ [h.To])), ∃ r, r ≠ [] ∧ q = (p ++ [h.To]) ++ r := by
        split
        · exact ⟨List.nodup_nil, fun q hq => by simp at hq⟩
        · exact hf h List.mem_cons_self
      rw [List.nodup_cons]
      refine ⟨fun hm => ?_, ?_⟩
      · rcases List.mem_append.1 hm with hm | hm
        · obtain ⟨r, hr, e⟩ := A.2 _ hm
          have := congrArg List.length e
          simp at this
          exact hr this
        · exact far _ hm (by simp)
      · rw [List.nodup_append]
        refine ⟨A.1, ih, fun a ha b hb e => ?_⟩
        subst e
        obtain ⟨r, _, rfl⟩ := A.2 _ ha
        exact far _ hb (by simp)

theorem vis_nodup {l : Layout} (v : Val l) (hd : ∀ s, isS l s = true → ((hopsF l s).map (·.To)).Nodup) (to_ : Int) : ∀ (n : Nat) (p : List Step), isS l (p.getLastD default) = true → (vis (hopsF l) to_ n p).Nodup
  | 0, _, _ => by simp [vis]
  | n + 1, p, hp => by
    refine visL_nodup (hd _ hp) fun h hh => ⟨vis_nodup v hd to_ n _ (by simpa using hop_step v hh), fun q hq => ?_⟩
    obtain ⟨_, r, hr, e⟩ := vis_len _ _ _ _ _ hq
    exact ⟨r, hr, e⟩

/-! ### Valid routes -/
theorem getLastD_some {p : List Step} (h : p ≠ []) : p.getLast? = some (p.getLastD default) := by
  rw [List.getLastD_eq_getLast?, List.getLast?_eq_some_getLast h]; rfl
theorem vis_good {l : Layout} (v : Val l) (to_ : Int) : ∀ (n : Nat) (p q : List Step), p ≠ [] → Good l p → q ∈ vis (hopsF l) to_ n p → Good l q
  | 0, _, _, _, _, h => by simp [vis] at h
  | n + 1, p, q, hp, g, h => by
    obtain ⟨x, hx, hn, h⟩ := visL_mem h
    have g' := good_snoc v g (getLastD_some hp) hx hn
    rcases h with rfl | ⟨_, h⟩
    · exact g'
    · exact vis_good v to_ n _ _ (by simp) g' h

theorem good_valid {l : Layout} (ck : checkL (layOf l) = 0) {q : List Step} (g : Good l q) (h2 : 2 ≤ q.length) (h24 : q.length ≤ 24) : (pointsF l ⟨q, 0⟩).2 = 0 := by
  obtain ⟨g1, g2, z, g3⟩ := g
  unfold pointsF
  rw [if_neg (by simpa using ck), if_neg (by simp; omega), if_neg (by simp; omega)]
  have : q.all (isS l) = true := List.all_eq_true.2 g1
  simp only [this, g2]
  simp [ptsE, g3]

theorem good_one {l : Layout} {a : Step} (h : isS l a = true) : Good l [a] :=
  ⟨fun s hs => by rw [List.mem_singleton] at hs; subst hs; exact h, by simp [dupAt], ⟨[], rfl⟩⟩

/-! ### All of them -/
/-! ### Find with a thousand units -/
theorem gen_find {l : Layout} (g : GenL l) {a : Step} (ha : isS l a = true) {to_ : Int} (h0 : 0 ≤ to_) (h1 : to_ < l.Sections.length) {b : Int} (hb1 : 1 ≤ b) (hb : b ≤ 1000) :
    findR l a to_ b = findE (if 1 + ((vis (hopsF l) to_ 23 [a]).length : Int) ≤ b then some (1 + ((vis (hopsF l) to_ 23 [a]).length : Int), outs to_ (vis (hopsF l) to_ 23 [a])) else none) := by
  unfold findR
  rw [if_neg (by simpa using gen_check g), if_neg (by simp [ha]; omega), ext_vis _ _ _ _ _ _ _ hb1, List.nil_append]
theorem gen_len {l : Layout} (g : GenL l) {a : Step} (ha : isS l a = true) (to_ : Int) : (vis (hopsF l) to_ 23 [a]).length ≤ 998 := Nat.le_trans (vis_cnt _ _ _ _) (gen_few g ha).1
theorem outs_len (to_ : Int) (L : List (List Step)) : (outs to_ L).length ≤ L.length := by
  unfold outs; rw [List.length_map]; exact List.length_filter_le _ _
theorem outs_mem {to_ : Int} {L : List (List Step)} {r : Route} (h : r ∈ outs to_ L) : r.Overlap = 0 ∧ r.Steps ∈ L ∧ (r.Steps.getLastD default).Section = to_ := by
  unfold outs at h
  simp only [List.mem_map, List.mem_filter, decide_eq_true_eq] at h
  obtain ⟨q, ⟨h1, h2⟩, rfl⟩ := h
  exact ⟨rfl, h1, h2⟩
theorem outs_nodup {to_ : Int} {L : List (List Step)} (h : L.Nodup) : (outs to_ L).Nodup := by
  unfold outs
  refine List.Pairwise.map _ ?_ (h.filter _)
  intro a b hab e
  exact hab (congrArg Route.Steps e)
end Go.Proofs.Ytnihhidbiepnhaa

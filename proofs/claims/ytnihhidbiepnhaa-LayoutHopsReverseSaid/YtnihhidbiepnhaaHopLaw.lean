/- The plain law of hops: at most two from each end of a valid layout, and back. -/
import Derived.Test.YtnihhidbiepnhaaHops
namespace Go.Proofs.Ytnihhidbiepnhaa
open Go.Eng Go.RowKit

structure Fine (l : Lay) (xs : List Lnk) : Prop where
  ok : ∀ k ∈ xs, linkB l k = true ∧ ¬ (k.a = k.b ∧ k.aEnd = k.bEnd)
  two : ∀ e, (atEnd xs e).length ≤ 2
  pt : ∀ e k0 k1, atEnd xs e = [k0, k1] → k1.point ≠ -1 ∧ k1.point = k0.point ∧ k1.pos ≠ k0.pos
  no : ∀ e k0 k1, atEnd xs e = [k0, k1] → joinB k1.a k1.aEnd k1.b k1.bEnd k0 = false

theorem Fine.nil (l : Lay) : Fine l [] := ⟨(fun k hk => by cases hk), (fun e => by simp [atEnd]), (fun e k0 k1 h => by simp [atEnd] at h), (fun e k0 k1 h => by simp [atEnd] at h)⟩

theorem Fine.snoc {l : Lay} {xs : List Lnk} {k : Lnk} (h : Fine l xs) (hl : linkB l k = true) (hne : ¬ (k.a = k.b ∧ k.aEnd = k.bEnd)) (hj : ¬ (atEnd xs (2 * k.a + k.aEnd)).any (joinB k.a k.aEnd k.b k.bEnd) = true)
    (hf1 : fitsB k (atEnd xs (2 * k.a + k.aEnd)) = true) (hf2 : fitsB k (atEnd xs (2 * k.b + k.bEnd)) = true) : Fine l (xs ++ [k]) := by
  have hfit : ∀ e, (2 * k.a + k.aEnd = e ∨ 2 * k.b + k.bEnd = e) → fitsB k (atEnd xs e) = true := by
    rintro e (rfl | rfl)
    · exact hf1
    · exact hf2
  have hcase : ∀ e, (2 * k.a + k.aEnd = e ∨ 2 * k.b + k.bEnd = e) → atEnd xs e = [] ∨ ∃ x, atEnd xs e = [x] ∧ k.point ≠ -1 ∧ k.point = x.point ∧ k.pos ≠ x.pos := by
    intro e he
    have := hfit e he
    cases hx : atEnd xs e with
    | nil => exact .inl rfl
    | cons x r =>
      rw [hx] at this
      cases r with
      | nil => simp [fitsB] at this; exact .inr ⟨x, rfl, this.1.1, this.1.2, this.2⟩
      | cons y r => simp [fitsB] at this
  refine ⟨fun x hx => ?_, fun e => ?_, fun e k0 k1 he => ?_, fun e k0 k1 he => ?_⟩
  · rcases List.mem_append.1 hx with hx | hx
    · exact h.ok x hx
    · obtain rfl := List.mem_singleton.1 hx; exact ⟨hl, hne⟩
  · rw [atEnd_snoc]
    split
    · rename_i hat
      rcases hcase e hat with h0 | ⟨x, h0, _⟩ <;> simp [h0]
    · simpa using h.two e
  · rw [atEnd_snoc] at he
    split at he
    · rename_i hat
      rcases hcase e hat with h0 | ⟨x, h0, h1⟩
      · rw [h0] at he; simp at he
      · rw [h0] at he; simp at he; obtain ⟨rfl, rfl⟩ := he; exact h1
    · exact h.pt e k0 k1 (by simpa using he)
  · rw [atEnd_snoc] at he
    split at he
    · rename_i hat
      rcases hcase e hat with h0 | ⟨x, h0, _⟩
      · rw [h0] at he; simp at he
      · rw [h0] at he; simp at he; obtain ⟨rfl, rfl⟩ := he
        cases hjb : joinB k.a k.aEnd k.b k.bEnd x with
        | false => rfl
        | true =>
          exfalso
          apply hj
          rw [List.any_eq_true]
          refine ⟨x, ?_, hjb⟩
          have hx : x ∈ xs := by
            have : x ∈ atEnd xs e := by rw [h0]; exact List.mem_singleton.2 rfl
            exact (List.mem_filter.1 this).1
          refine List.mem_filter.2 ⟨hx, ?_⟩
          simp [joinB] at hjb ⊢
          omega
    · exact h.no e k0 k1 (by simpa using he)

theorem fine_of {l : Lay} : ∀ (ks done : List Lnk), Fine l done → linksErr l done ks = 0 → Fine l (done ++ ks)
  | [], done, h, _ => by simpa using h
  | k :: r, done, h, he => by
    unfold linksErr at he
    split at he
    · omega
    · rename_i h1
      split at he
      · omega
      · rename_i h2
        split at he
        · omega
        · rename_i h3
          split at he
          · omega
          · rename_i h4
            have := fine_of r (done ++ [k]) (h.snoc (by simpa using h1) h2 h3 (by simp at h4; exact h4.1) (by simp at h4; exact h4.2)) he
            simpa using this

theorem fine_has {l : Lay} {s d : Int} (h : hasB l s d = true) : Fine l l.links ∧ (d = 0 ∨ d = 1) := by
  unfold hasB at h
  simp at h
  refine ⟨?_, h.1.2⟩
  have hc := h.2
  unfold checkL at hc
  split at hc
  · omega
  split at hc
  · omega
  split at hc
  · omega
  split at hc
  · omega
  split at hc
  · omega
  have := fine_of l.links [] (Fine.nil l) hc
  simpa using this

theorem linkB_range {l : Lay} {k : Lnk} (h : linkB l k = true) : (k.aEnd = 0 ∨ k.aEnd = 1) ∧ (k.bEnd = 0 ∨ k.bEnd = 1) ∧ -1 ≤ k.point ∧ (0 ≤ k.a ∧ k.a < l.sections.length ∧ 0 ≤ k.b ∧ k.b < l.sections.length) := by
  unfold linkB at h
  simp at h
  omega

theorem hop_none {l : Lay} {s e : Int} {k : Lnk} (hk : linkB l k = true) (he : e = 0 ∨ e = 1) (h : (decide (2 * k.a + k.aEnd = 2 * s + e) || decide (2 * k.b + k.bEnd = 2 * s + e)) = false) : hopOf s e k = none := by
  have := linkB_range hk
  simp at h
  unfold hopOf
  rw [if_neg (by omega), if_neg (by omega)]

/-- The hop through k. -/
theorem hop_some {l : Lay} {s e : Int} {k : Lnk} (hk : linkB l k = true) (he : e = 0 ∨ e = 1) (h : (decide (2 * k.a + k.aEnd = 2 * s + e) || decide (2 * k.b + k.bEnd = 2 * s + e)) = true) :
    (s = k.a ∧ e = k.aEnd ∧ hopOf s e k = some ⟨k.b, k.bEnd, k.point, k.pos⟩) ∨ (s = k.b ∧ e = k.bEnd ∧ hopOf s e k = some ⟨k.a, k.aEnd, k.point, k.pos⟩) := by
  have hr := linkB_range hk
  simp at h
  unfold hopOf
  have hb : (if k.bEnd = 0 then (0 : Int) else 1) = k.bEnd := by split <;> omega
  have ha : (if k.aEnd = 0 then (0 : Int) else 1) = k.aEnd := by split <;> omega
  rw [ha, hb]
  by_cases h1 : s = k.a ∧ e = k.aEnd
  · exact .inl ⟨h1.1, h1.2, if_pos h1⟩
  · have h2 : s = k.b ∧ e = k.bEnd := by omega
    exact .inr ⟨h2.1, h2.2, by rw [if_neg h1, if_pos h2]⟩

theorem hops_atEnd {l : Lay} {s e : Int} (he : e = 0 ∨ e = 1) : ∀ (xs : List Lnk), (∀ k ∈ xs, linkB l k = true) → xs.filterMap (hopOf s e) = (atEnd xs (2 * s + e)).filterMap (hopOf s e)
  | [], _ => rfl
  | k :: r, h => by
    have ih := hops_atEnd (s := s) he r (fun x hx => h x (List.mem_cons_of_mem _ hx))
    unfold atEnd at ih ⊢
    rw [List.filter_cons]
    split
    · rw [List.filterMap_cons, List.filterMap_cons, ih]
    · rename_i hn
      rw [List.filterMap_cons, hop_none (h k List.mem_cons_self) he (by simpa using hn), ih]

theorem fm1 {s e : Int} {k : Lnk} {x : Hop} (h : hopOf s e k = some x) : [k].filterMap (hopOf s e) = [x] := by simp [h]
theorem fm2 {s e : Int} {k k' : Lnk} {x y : Hop} (h : hopOf s e k = some x) (h' : hopOf s e k' = some y) : [k, k'].filterMap (hopOf s e) = [x, y] := by simp [h, h']

/-- All that a valid layout's hops at an end may be. -/
theorem hops_cases {l : Lay} {s e : Int} (hF : Fine l l.links) (he : e = 0 ∨ e = 1) :
    l.links.filterMap (hopOf s e) = [] ∨ (∃ h, l.links.filterMap (hopOf s e) = [h]) ∨
    ∃ h0 h1 : Hop, l.links.filterMap (hopOf s e) = [h0, h1] ∧ ¬ (h0.to = h1.to ∧ h0.dir = h1.dir) ∧ h0.point = h1.point ∧ 0 ≤ h0.point ∧ h0.pos ≠ h1.pos := by
  rw [hops_atEnd he l.links (fun k hk => (hF.ok k hk).1)]
  have hmem : ∀ k ∈ atEnd l.links (2 * s + e), linkB l k = true ∧ (decide (2 * k.a + k.aEnd = 2 * s + e) || decide (2 * k.b + k.bEnd = 2 * s + e)) = true := fun k hk => ⟨(hF.ok k (List.mem_filter.1 hk).1).1, (List.mem_filter.1 hk).2⟩
  have h2 := hF.two (2 * s + e)
  cases hA : atEnd l.links (2 * s + e) with
  | nil => exact .inl rfl
  | cons k0 r =>
    rw [hA] at hmem h2
    have m0 := hmem k0 List.mem_cons_self
    cases r with
    | nil =>
      refine .inr (.inl ?_)
      rcases hop_some m0.1 he m0.2 with ⟨_, _, h⟩ | ⟨_, _, h⟩ <;> exact ⟨_, fm1 h⟩
    | cons k1 r =>
      have : r = [] := by
        cases r with
        | nil => rfl
        | cons _ _ => simp at h2
      subst this
      have m1 := hmem k1 (by simp)
      have hp := hF.pt _ _ _ hA
      have hj := hF.no _ _ _ hA
      have r1 := linkB_range m1.1
      have r0 := linkB_range m0.1
      simp [joinB] at hj
      refine .inr (.inr ?_)
      rcases hop_some m0.1 he m0.2 with ⟨a1, a2, h⟩ | ⟨a1, a2, h⟩ <;> rcases hop_some m1.1 he m1.2 with ⟨b1, b2, h'⟩ | ⟨b1, b2, h'⟩ <;>
        exact ⟨_, _, fm2 h h', (by dsimp only; omega), hp.2.1.symm, (by dsimp only; omega), fun q => hp.2.2 q.symm⟩

theorem hopsL_cases (l : Lay) (s d : Int) : hopsL l s d = [] ∨ (∃ h, hopsL l s d = [h]) ∨
    ∃ h0 h1 : Hop, hopsL l s d = [h0, h1] ∧ ¬ (h0.to = h1.to ∧ h0.dir = h1.dir) ∧ h0.point = h1.point ∧ 0 ≤ h0.point ∧ h0.pos ≠ h1.pos := by
  unfold hopsL
  by_cases h : hasB l s d = true
  · rw [if_pos h]
    exact hops_cases (fine_has h).1 (by split <;> simp)
  · rw [if_neg h]
    exact .inl rfl

/-- How often h stands in a list. -/
def cnt (h : Hop) (xs : List Hop) : Nat := (xs.filter (fun x => decide (x = h))).length

/-- The way back of a hop is there, once. -/
theorem hops_back {l : Lay} {s d : Int} {h : Hop} (hh : h ∈ hopsL l s d) : cnt ⟨s, if d = 0 then 1 else 0, h.point, h.pos⟩ (hopsL l h.to (if h.dir = 0 then 1 else 0)) = 1 := by
  unfold hopsL at hh
  have hb : hasB l s d = true := by
    by_cases hb : hasB l s d = true
    · exact hb
    · rw [if_neg hb] at hh; cases hh
  rw [if_pos hb] at hh
  obtain ⟨hF, hd⟩ := fine_has hb
  have he : (if d = 1 then (0 : Int) else 1) = 0 ∨ (if d = 1 then (0 : Int) else 1) = 1 := by split <;> simp
  obtain ⟨k, hk, hkh⟩ := List.mem_filterMap.1 hh
  obtain ⟨hl, hne⟩ := hF.ok k hk
  have hr := linkB_range hl
  have hat : (decide (2 * k.a + k.aEnd = 2 * s + (if d = 1 then (0 : Int) else 1)) || decide (2 * k.b + k.bEnd = 2 * s + (if d = 1 then (0 : Int) else 1))) = true := by
    cases hx : (decide (2 * k.a + k.aEnd = 2 * s + (if d = 1 then (0 : Int) else 1)) || decide (2 * k.b + k.bEnd = 2 * s + (if d = 1 then (0 : Int) else 1))) with
    | true => rfl
    | false => rw [hop_none hl he hx] at hkh; cases hkh
  have hrev : (if d = 0 then (1 : Int) else 0) = (if d = 1 then (0 : Int) else 1) := by rcases hd with rfl | rfl <;> rfl
  rw [hrev]
  have hchk : checkL l = 0 := by unfold hasB at hb; simp at hb; exact hb.2
  -- the hop of k back
  have key : ∀ (x : Hop), hopOf h.to h.dir k = some x → x = ⟨s, if d = 1 then (0 : Int) else 1, h.point, h.pos⟩ → (h.dir = 0 ∨ h.dir = 1) → (0 ≤ h.to ∧ h.to < l.sections.length) →
      cnt ⟨s, if d = 1 then (0 : Int) else 1, h.point, h.pos⟩ (hopsL l h.to (if h.dir = 0 then 1 else 0)) = 1 := by
    intro x hx hxe hdir hto
    have hhas : hasB l h.to (if h.dir = 0 then 1 else 0) = true := by
      unfold hasB
      rcases hdir with q | q <;> simp [q, hchk] <;> omega
    have e2 : (if (if h.dir = 0 then (1 : Int) else 0) = 1 then (0 : Int) else 1) = h.dir := by rcases hdir with q | q <;> simp [q]
    have hm : x ∈ l.links.filterMap (hopOf h.to h.dir) := List.mem_filterMap.2 ⟨k, hk, hx⟩
    unfold hopsL
    rw [if_pos hhas, e2, ← hxe]
    rcases hops_cases (s := h.to) (e := h.dir) hF hdir with h0 | ⟨y, h0⟩ | ⟨y, z, h0, h1, h2, h3, h4⟩
    · rw [h0] at hm; cases hm
    · rw [h0] at hm ⊢
      obtain rfl := List.mem_singleton.1 hm
      simp [cnt]
    · rw [h0] at hm ⊢
      have hyz : y ≠ z := fun q => h1 ⟨by rw [q], by rw [q]⟩
      have hc : x = y ∨ x = z := by simpa using hm
      rcases hc with rfl | rfl
      · simp [cnt, hyz, Ne.symm hyz]
      · simp [cnt, hyz, Ne.symm hyz]
  rcases hop_some hl he hat with ⟨p1, p2, p3⟩ | ⟨p1, p2, p3⟩
  · rw [p3] at hkh
    cases hkh
    refine key ⟨k.a, k.aEnd, k.point, k.pos⟩ ?_ (by rw [p1, p2]) (by dsimp only; omega) (by dsimp only; omega)
    have hb' : (if k.aEnd = 0 then (0 : Int) else 1) = k.aEnd := by split <;> omega
    show hopOf k.b k.bEnd k = _
    unfold hopOf
    rw [if_neg (by omega), if_pos ⟨rfl, rfl⟩, hb']
  · rw [p3] at hkh
    cases hkh
    refine key ⟨k.b, k.bEnd, k.point, k.pos⟩ ?_ (by rw [p1, p2]) (by dsimp only; omega) (by dsimp only; omega)
    have hb' : (if k.bEnd = 0 then (0 : Int) else 1) = k.bEnd := by split <;> omega
    show hopOf k.a k.aEnd k = _
    unfold hopOf
    rw [if_pos ⟨rfl, rfl⟩, hb']

end Go.Proofs.Ytnihhidbiepnhaa

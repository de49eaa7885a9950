/- Cells of a route: the program's and the reference's. Resources and clashes of routes: the program's and the reference's. Resources and clashes of routes: the reference's; comparisons. Clashes of routes; equal lists; what the laws of routes compare. -/
import Derived.Test.YtnihhidbiepnhaaTa
import Derived.Test.YtnihhidbiepnhaaRe
import Derived.Test.YtnihhidbiepnhaaRq
import Derived.Test.YtnihhidbiepnhaaRr
import Derived.Test.YtnihhidbiepnhaaRs
namespace Go.Proofs.Ytnihhidbiepnhaa
open Go.Dc
set_option maxRecDepth 100000

structure ROk (l : Layout) (r : Route) : Prop where
  ck : checkL (layOf l) = 0
  v : Val l
  len : r.Steps.length ≤ 24
  ov : 0 ≤ r.Overlap ∧ r.Overlap ≤ 2
  two : 2 ≤ (r.Steps.length : Int) - r.Overlap
  st : ∀ s ∈ r.Steps, isS l s = true
  dup : dupAt [] r.Steps = false
  pts : ptsL l r.Steps = some (pointsF l r).1

theorem rok_of {l : Layout} {r : Route} (h : (pointsF l r).2 = 0) : ROk l r := by
  by_cases hc : checkL (layOf l) = 0
  · by_cases h24 : 24 < r.Steps.length ∨ 2 < r.Overlap
    · have e : pointsF l r = ([], 7) := by unfold pointsF; rw [if_neg (by simp [hc]), if_pos h24]
      rw [e] at h; cases h
    · by_cases h2 : r.Overlap < 0 ∨ (r.Steps.length : Int) - r.Overlap < 2
      · have e : pointsF l r = ([], 4) := by unfold pointsF; rw [if_neg (by simp [hc]), if_neg h24, if_pos h2]
        rw [e] at h; cases h
      · by_cases ha : r.Steps.all (isS l) = false
        · have e : pointsF l r = ([], 4) := by unfold pointsF; rw [if_neg (by simp [hc]), if_neg h24, if_neg h2, if_pos ha]
          rw [e] at h; cases h
        · by_cases hd : dupAt [] r.Steps = true
          · have e : pointsF l r = ([], 5) := by unfold pointsF; rw [if_neg (by simp [hc]), if_neg h24, if_neg h2, if_neg ha, if_pos hd]
            rw [e] at h; cases h
          · have e : pointsF l r = ptsE l r := by unfold pointsF; rw [if_neg (by simp [hc]), if_neg h24, if_neg h2, if_neg ha, if_neg hd]
            refine ⟨hc, val_of hc, by omega, by omega, by omega, fun s hm => List.all_eq_true.1 (by simpa using ha) s hm, by simpa using hd, ?_⟩
            rw [e] at h ⊢
            unfold ptsE at h ⊢
            cases hp : ptsL l r.Steps with
            | none => rw [hp] at h; cases h
            | some q => rfl
  · have e : pointsF l r = ([], 1) := by unfold pointsF; rw [if_pos hc]
    rw [e] at h; cases h

end Go.Proofs.Ytnihhidbiepnhaa

namespace Go.Proofs.Ytnihhidbiepnhaa
open Go.Dc

/-- The marks of the numbers of a list. -/
def uOf (N : Nat) (S : List Int) : List Bool := (List.range N).map fun (i : Nat) => decide ((i : Int) ∈ S)
theorem uOf_len (N : Nat) (S : List Int) : (uOf N S).length = N := by simp [uOf]
theorem uOf_nil (N : Nat) : List.replicate N false = uOf N [] := by
  refine List.ext_getElem (by simp [uOf]) fun i h1 h2 => ?_
  simp [uOf]
theorem uOf_set {N : Nat} {S : List Int} {x : Int} (h0 : 0 ≤ x) (h1 : x < N) : (uOf N S).set x.toNat true = uOf N (S ++ [x]) := by
  refine List.ext_getElem (by simp [uOf]) fun i a b => ?_
  rw [List.getElem_set]
  simp only [uOf, List.getElem_map, List.getElem_range, List.mem_append, List.mem_singleton]
  by_cases e : x.toNat = i
  · rw [if_pos e]
    have : (i : Int) = x := by omega
    simp [this]
  · rw [if_neg e]
    have : ¬ (i : Int) = x := by omega
    simp [this]
theorem uOf_idx {N : Nat} {S : List Int} {x : Int} (h0 : 0 ≤ x) (h1 : x < N) : idx (uOf N S) x = some (decide (x ∈ S)) := by
  have hlt : x.toNat < N := by omega
  unfold idx
  rw [if_pos h0]
  simp only [uOf, List.getElem?_map, List.getElem?_range hlt, Option.map_some]
  rw [Int.toNat_of_nonneg h0]

/-- The numbers of the marks that are set. -/
def idxs : List Bool → Nat → List Int
  | [], _ => []
  | b :: r, i => if b then (i : Int) :: idxs r (i + 1) else idxs r (i + 1)
theorem idxs_len : ∀ (u : List Bool) (i : Nat), (idxs u i).length ≤ u.length
  | [], _ => by simp [idxs]
  | b :: r, i => by
    have := idxs_len r (i + 1)
    unfold idxs
    cases b <;> simp <;> omega
def nRes (l : Layout) : Nat := l.Sections.length + l.Points.length
def ptRes (l : Layout) (p : Int) : List Int := if 0 ≤ p then [(l.Sections.length : Int) + p] else []
def usedL (l : Layout) (r : Route) : List Int := r.Steps.map (·.Section) ++ (pointsF l r).1.flatMap (ptRes l)
def resR (l : Layout) (r : Route) : List Int × Int := if (pointsF l r).2 ≠ 0 then ([], (pointsF l r).2) else (idxs (uOf (nRes l) (usedL l r)) 0, 0)

theorem tr_range {l : Layout} (v : Val l) (a b : Step) : (tr l a b).2 = true → -1 ≤ (tr l a b).1 ∧ (tr l a b).1 < l.Points.length := by
  unfold tr
  have key : ∀ ks : List Link, (∀ k ∈ ks, k ∈ l.Links) → (trF (leaveF a) (leaveF (revF b)) ks).2 = true → -1 ≤ (trF (leaveF a) (leaveF (revF b)) ks).1 ∧ (trF (leaveF a) (leaveF (revF b)) ks).1 < l.Points.length := by
    intro ks
    induction ks with
    | nil => intro _ h; cases h
    | cons k ks ih =>
      intro hk h
      unfold trF at h ⊢
      by_cases hj : joinK (leaveF a) (leaveF (revF b)) k = true
      · rw [if_pos hj]
        exact (v.links k (hk k List.mem_cons_self)).2.2.2.2.1
      · rw [if_neg hj] at h ⊢
        exact ih (fun q hq => hk q (List.mem_cons_of_mem _ hq)) h
  exact key l.Links (fun k h => h)

theorem ptsF_range {l : Layout} (v : Val l) : ∀ (ss : List Step) (a : Step) (q : List Int), ptsF l a ss = some q → q.length = ss.length ∧ ∀ p ∈ q, -1 ≤ p ∧ p < l.Points.length
  | [], a, q, h => by cases h; exact ⟨rfl, fun p hp => by simp at hp⟩
  | b :: ss, a, q, h => by
    unfold ptsF at h
    by_cases ht : (tr l a b).2 = true
    · rw [if_pos ht] at h
      cases hq : ptsF l b ss with
      | none => rw [hq] at h; cases h
      | some z =>
        rw [hq] at h
        cases h
        have ih := ptsF_range v ss b z hq
        refine ⟨by simp [ih.1], fun p hp => ?_⟩
        rcases List.mem_cons.1 hp with e | e
        · rw [e]; exact tr_range v a b ht
        · exact ih.2 p e
    · rw [if_neg ht] at h; cases h

theorem rok_pts {l : Layout} {r : Route} (o : ROk l r) : (pointsF l r).1.length ≤ 24 ∧ ∀ p ∈ (pointsF l r).1, -1 ≤ p ∧ p < l.Points.length := by
  have h := o.pts
  have hl := o.len
  obtain ⟨ss, hs⟩ : ∃ ss, r.Steps = ss := ⟨_, rfl⟩
  rw [hs] at h hl
  generalize (pointsF l r).1 = q at h
  cases ss with
  | nil =>
    unfold ptsL at h
    have := Option.some.inj h
    subst this
    exact ⟨by simp, fun p hp => by simp at hp⟩
  | cons a t =>
    unfold ptsL at h
    have := ptsF_range o.v t a _ h
    rw [List.length_cons] at hl
    exact ⟨by omega, this.2⟩

theorem res_m (l : Layout) (r : Route) : route_Resources_m l r = some (resR l r) := by
  unfold route_Resources_m resR
  rw [points_m, Option.bind_some]
  by_cases h0 : (pointsF l r).2 = 0
  · have o := rok_of h0
    have v := o.v
    have hf := v.full
    have hlen := o.len
    have hp := rok_pts o
    rw [if_neg (by simp [h0]), if_neg (by simp [h0]), chk_true (i64b_of (by omega) (by omega)), mk_bool (by omega) (by omega), Option.bind_some]
    have hN : ((l.Sections.length : Int) + (l.Points.length : Int)).toNat = nRes l := by unfold nRes; omega
    rw [hN, uOf_nil]
    -- the third loop
    have k2 : ∀ S, route_Resources_k2 (uOf (nRes l) S) () = some (idxs (uOf (nRes l) S) 0, 0) := by
      intro S
      unfold route_Resources_k2
      have hul := uOf_len (nRes l) S
      generalize uOf (nRes l) S = u at hul
      have hnr : nRes l ≤ 144 := by unfold nRes; omega
      have := iter_list (B := route_Resources_b3 u) (fun (z : List Int × Nat) i => (z.1, i)) u (fun z i => z.2 = i ∧ z.1.length ≤ i) (fun z q => some (z.1 ++ idxs q z.2, 0)) ?_ ?_ FUEL ([], 0) 0 ⟨rfl, by simp⟩ (by omega) (fuel_of (by omega))
      · simpa using this
      · rintro c ⟨z, n⟩ i x q ⟨hn, hz⟩ hdr hi hx hk
        simp only at hn hz
        subst hn
        simp only [route_Resources_b3]
        rw [if_pos (by simp; omega), hx, Option.bind_some]
        cases x with
        | true =>
          have h := hk (z ++ [(n : Int)], n + 1) ⟨rfl, by simp; omega⟩
          simp only at h
          rw [if_pos rfl, chk_true (by simp; omega)]
          simp only [route_Resources_k5]
          rw [h]
          simp [idxs]
        | false =>
          have h := hk (z, n + 1) ⟨rfl, by simp only; omega⟩
          simp only at h
          rw [if_neg (by simp)]
          simp only [route_Resources_k5]
          rw [h]
          simp [idxs]
      · rintro c ⟨z, n⟩ ⟨hn, hz⟩
        simp only [route_Resources_b3]
        rw [if_neg (by simp)]
        simp [route_Resources_k4, idxs]
    -- the second
    have k1 : ∀ S, route_Resources_k1 (pointsF l r) l (uOf (nRes l) S) () = some (idxs (uOf (nRes l) (S ++ (pointsF l r).1.flatMap (ptRes l))) 0, 0) := by
      intro S
      unfold route_Resources_k1
      have := iter_list (B := route_Resources_b2 (pointsF l r) l) (fun (S : List Int) i => (uOf (nRes l) S, i)) (pointsF l r).1 (fun _ _ => True) (fun S q => some (idxs (uOf (nRes l) (S ++ q.flatMap (ptRes l))) 0, 0)) ?_ ?_ FUEL S 0 trivial (by omega) (fuel_of (by omega))
      · simpa using this
      · intro c S i x q _ hdr hi hx hk
        have hm : x ∈ (pointsF l r).1 := List.mem_of_mem_drop (i := i) (by rw [hdr]; exact List.mem_cons_self)
        have hr := hp.2 x hm
        simp only [route_Resources_b2]
        rw [if_pos (by simp; omega), hx, Option.bind_some]
        by_cases hx0 : 0 ≤ x
        · have hlt : (l.Sections.length : Int) + x < nRes l := by unfold nRes; omega
          rw [if_pos (by simpa using hx0), chk_true (i64b_of (by omega) (by omega)), uOf_idx (by omega) hlt, Option.bind_some]
          simp only [route_Resources_k3]
          rw [uOf_set (by omega) hlt, hk _ trivial]
          simp [List.flatMap_cons, ptRes, hx0]
        · rw [if_neg (by simpa using hx0)]
          simp only [route_Resources_k3]
          rw [hk _ trivial]
          simp [List.flatMap_cons, ptRes, hx0]
      · intro c S _
        simp only [route_Resources_b2]
        rw [if_neg (by simp), k2]
        simp
    have := iter_list (B := route_Resources_b1 r (pointsF l r) l) (fun (S : List Int) i => (uOf (nRes l) S, i)) r.Steps (fun _ _ => True) (fun S q => some (idxs (uOf (nRes l) (S ++ q.map (·.Section) ++ (pointsF l r).1.flatMap (ptRes l))) 0, 0)) ?_ ?_ FUEL [] 0 trivial (by omega) (fuel_of (by omega))
    · simpa [usedL] using this
    · intro c S i x q _ hdr hi hx hk
      have hm : x ∈ r.Steps := List.mem_of_mem_drop (i := i) (by rw [hdr]; exact List.mem_cons_self)
      have hs := o.st x hm
      unfold isS at hs
      simp only [Bool.and_eq_true, decide_eq_true_eq] at hs
      have hlt : x.Section < nRes l := by unfold nRes; omega
      simp only [route_Resources_b1]
      rw [if_pos (by simp; omega), hx, Option.bind_some, uOf_idx hs.1.1 hlt, Option.bind_some, uOf_set hs.1.1 hlt, hk _ trivial]
      simp
    · intro c S _
      simp only [route_Resources_b1]
      rw [if_neg (by simp), k1]
      simp
  · rw [if_pos (by simp [h0]), if_pos h0]
end Go.Proofs.Ytnihhidbiepnhaa

namespace Go.Proofs.Ytnihhidbiepnhaa
open Go.Dc

end Go.Proofs.Ytnihhidbiepnhaa

namespace Go.Proofs.Ytnihhidbiepnhaa
open Go.Dc

theorem index_wp (s : List Int) (v : Int) (hl : s.length ≤ 1000) : WP (slices_Index_int_int_m s v) (fun y => 0 ≤ y ↔ v ∈ s) := by
  unfold slices_Index_int_int_m
  refine wp_iter (fun (t : Nat) => t ≤ s.length ∧ ∀ j : Nat, j < t → s[j]? ≠ some v) (fun t => s.length - t) _ ?_ FUEL _ ⟨by omega, fun j h => by omega⟩ (fuel_of (by omega))
  rintro c t ⟨ht, hA⟩ hc
  simp only [slices_Index_int_int_b1]
  refine wp_ite (fun h => ?_) (fun h => ?_)
  · simp only [decide_eq_true_eq] at h
    have hlt : t < s.length := by omega
    rw [idx_nat, List.getElem?_eq_getElem hlt, Option.bind_some]
    refine wp_ite (fun hb => ?_) (fun hb => ?_)
    · simp only [decide_eq_true_eq] at hb
      exact wp_some ⟨fun _ => by rw [hb]; exact List.getElem_mem hlt, fun _ => by omega⟩
    · simp only [decide_eq_false_iff_not] at hb
      refine hc _ ⟨by omega, fun j hj => ?_⟩ (by omega)
      by_cases e : j = t
      · rw [e, List.getElem?_eq_getElem hlt]; simp; exact fun h => hb h.symm
      · exact hA j (by omega)
  · simp only [decide_eq_false_iff_not] at h
    refine wp_some ⟨fun h => by omega, fun hm => ?_⟩
    obtain ⟨j, hj, e⟩ := List.mem_iff_getElem.1 hm
    exact absurd (show s[j]? = some v by rw [List.getElem?_eq_getElem hj, e]) (hA j (by omega))

theorem contains_m (s : List Int) (v : Int) (hl : s.length ≤ 1000) : slices_Contains_int_int_m s v = some (decide (v ∈ s)) := by
  unfold slices_Contains_int_int_m
  obtain ⟨y, e, h⟩ := index_wp s v hl
  rw [e, Option.bind_some, decide_eq_decide.2 h]

theorem cfunc_m (s f : List Int) (hs : s.length ≤ 1000) (hf : f.length ≤ 1000) : slices_ContainsFunc_int_int_m s f = some (decide (∃ x ∈ s, x ∈ f)) := by
  unfold slices_ContainsFunc_int_int_m slices_IndexFunc_int_int_m
  have k : WP (iter (slices_IndexFunc_int_int_b1 s f) FUEL 0) (fun y => 0 ≤ y ↔ ∃ x ∈ s, x ∈ f) := by
    refine wp_iter (fun (t : Nat) => t ≤ s.length ∧ ∀ (j : Nat) x, j < t → s[j]? = some x → ¬ x ∈ f) (fun t => s.length - t) _ ?_ FUEL _ ⟨by omega, fun j x h => by omega⟩ (fuel_of (by omega))
    rintro c t ⟨ht, hA⟩ hc
    simp only [slices_IndexFunc_int_int_b1]
    refine wp_ite (fun h => ?_) (fun h => ?_)
    · simp only [decide_eq_true_eq] at h
      have hlt : t < s.length := by omega
      rw [idx_nat, List.getElem?_eq_getElem hlt, Option.bind_some]
      unfold route_Clashes_c1_m
      rw [contains_m f _ hf, Option.bind_some, Option.bind_some]
      refine wp_ite (fun hb => ?_) (fun hb => ?_)
      · simp only [decide_eq_true_eq] at hb
        exact wp_some ⟨fun _ => ⟨_, List.getElem_mem hlt, hb⟩, fun _ => by omega⟩
      · simp only [decide_eq_false_iff_not] at hb
        refine hc _ ⟨by omega, fun j x hj hx => ?_⟩ (by omega)
        by_cases e : j = t
        · subst e
          rw [List.getElem?_eq_getElem hlt] at hx
          rw [← Option.some.inj hx]; exact hb
        · exact hA j x (by omega) hx
    · simp only [decide_eq_false_iff_not] at h
      refine wp_some ⟨fun h => by omega, ?_⟩
      rintro ⟨x, hm, hx⟩
      obtain ⟨j, hj, e⟩ := List.mem_iff_getElem.1 hm
      exact absurd hx (hA j x (by omega) (by rw [List.getElem?_eq_getElem hj, e]))
  obtain ⟨y, e, h⟩ := k
  rw [e, Option.bind_some, decide_eq_decide.2 h]

def clashR (l : Layout) (a b : Route) : Bool × Int :=
  if (pointsF l a).2 ≠ 0 then (false, (pointsF l a).2) else if (pointsF l b).2 ≠ 0 then (false, (pointsF l b).2) else
  (decide (∃ x ∈ idxs (uOf (nRes l) (usedL l a)) 0, x ∈ idxs (uOf (nRes l) (usedL l b)) 0), 0)

theorem res_len {l : Layout} (v : Val l) (S : List Int) : (idxs (uOf (nRes l) S) 0).length ≤ 1000 := by
  have := idxs_len (uOf (nRes l) S) 0
  rw [uOf_len] at this
  have := v.full
  unfold nRes at *
  omega

theorem clash_m (l : Layout) (a b : Route) : route_Clashes_m l a b = some (clashR l a b) := by
  unfold route_Clashes_m clashR
  rw [res_m, Option.bind_some]
  by_cases ha : (pointsF l a).2 = 0
  · have ea : resR l a = (idxs (uOf (nRes l) (usedL l a)) 0, 0) := by unfold resR; rw [if_neg (by simp [ha])]
    have v := (rok_of ha).v
    rw [ea, if_neg (by simp), if_neg (by simp [ha]), res_m, Option.bind_some]
    by_cases hb : (pointsF l b).2 = 0
    · have eb : resR l b = (idxs (uOf (nRes l) (usedL l b)) 0, 0) := by unfold resR; rw [if_neg (by simp [hb])]
      rw [eb, if_neg (by simp), if_neg (by simp [hb]), cfunc_m _ _ (res_len v _) (res_len v _), Option.bind_some]
    · have eb : resR l b = ([], (pointsF l b).2) := by unfold resR; rw [if_pos hb]
      rw [eb, if_pos (by simp [hb]), if_pos hb]
  · have ea : resR l a = ([], (pointsF l a).2) := by unfold resR; rw [if_pos ha]
    rw [ea, if_pos (by simp [ha]), if_pos ha]

end Go.Proofs.Ytnihhidbiepnhaa

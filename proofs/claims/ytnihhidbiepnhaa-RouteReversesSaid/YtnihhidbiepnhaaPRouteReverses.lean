/- RouteReverses, the plain law. -/
import Derived.Test.YtnihhidbiepnhaaGb
import Derived.Test.YtnihhidbiepnhaaGc
import Derived.Test.YtnihhidbiepnhaaRg
import Derived.Test.YtnihhidbiepnhaaOpens
import Derived.Test.YtnihhidbiepnhaaWRouteReverses
namespace Go.Proofs.Ytnihhidbiepnhaa
open Go.Dc

theorem revref_m (s : Step) : ref1_Reverse_m s = some (revF s) := by
  unfold ref1_Reverse_m revF
  by_cases h : s.Dir = 0 <;> simp [h]
theorem rev_rev {l : Layout} {s : Step} (h : isS l s = true) : revF (revF s) = s := by
  unfold isS at h
  simp only [Bool.and_eq_true, Bool.or_eq_true, decide_eq_true_eq] at h
  obtain ⟨a, b⟩ := s
  simp only [revF] at h ⊢
  rcases h.2 with h | h <;> simp [h]
theorem rev_sec (s : Step) : (revF s).Section = s.Section := by unfold revF; split <;> rfl
theorem rev_isS {l : Layout} {s : Step} (h : isS l s = true) : isS l (revF s) = true := by
  unfold isS at h ⊢
  simp only [Bool.and_eq_true, Bool.or_eq_true, decide_eq_true_eq] at h ⊢
  rw [rev_sec]
  refine ⟨h.1, ?_⟩
  unfold revF
  split <;> simp
theorem joinK_comm (f t : Route_end) (k : Link) : joinK f t k = joinK t f k := by unfold joinK; rw [Bool.or_comm]
theorem trF_comm (f t : Route_end) : ∀ ks : List Link, trF f t ks = trF t f ks
  | [] => rfl
  | k :: ks => by unfold trF; rw [joinK_comm f t k, trF_comm f t ks]
theorem tr_rev {l : Layout} {a b : Step} (ha : isS l a = true) : tr l (revF b) (revF a) = tr l a b := by
  unfold tr
  rw [rev_rev ha, trF_comm]
theorem ptsF_snoc' (l : Layout) : ∀ (ss : List Step) (a b : Step) (q : List Int), ptsF l a ss = some q → (tr l ((a :: ss).getLast (by simp)) b).2 = true → ptsF l a (ss ++ [b]) = some (q ++ [(tr l ((a :: ss).getLast (by simp)) b).1])
  | [], a, b, q, h1, h => by
    simp only [List.getLast_singleton] at h
    cases h1
    simp [ptsF, h]
  | c :: ss, a, b, q, h1, h2 => by
    unfold ptsF at h1
    by_cases ht : (tr l a c).2 = true
    · rw [if_pos ht] at h1
      cases hp : ptsF l c ss with
      | none => rw [hp] at h1; cases h1
      | some q2 =>
        rw [hp] at h1
        cases h1
        have := ptsF_snoc' l ss c b q2 hp (by simpa using h2)
        rw [List.cons_append]
        unfold ptsF
        rw [if_pos ht, this]
        simp
    · rw [if_neg ht] at h1; cases h1
def backL (ss : List Step) : List Step := ss.reverse.map revF
theorem pts_back {l : Layout} : ∀ (ss : List Step) (q : List Int), (∀ s ∈ ss, isS l s = true) → ptsL l ss = some q → ptsL l (backL ss) = some q.reverse
  | [], q, _, h => by cases h; rfl
  | [a], q, _, h => by cases h; rfl
  | a :: b :: r, q, hs, h => by
    simp only [ptsL] at h
    unfold ptsF at h
    by_cases ht : (tr l a b).2 = true
    · rw [if_pos ht] at h
      cases hp : ptsF l b r with
      | none => rw [hp] at h; cases h
      | some q2 =>
        rw [hp] at h
        cases h
        have ih := pts_back (b :: r) q2 (fun s h => hs s (by simp [h])) hp
        have e : backL (a :: b :: r) = backL (b :: r) ++ [revF a] := by simp [backL]
        rw [e]
        have hne : backL (b :: r) ≠ [] := by simp [backL]
        have hlast : (backL (b :: r)).getLast hne = revF b := by simp [backL]
        cases hb : backL (b :: r) with
        | nil => exact absurd hb hne
        | cons c cs =>
          simp only [hb] at ih hlast
          have t1 : tr l (revF b) (revF a) = tr l a b := tr_rev (hs a (by simp))
          have := ptsF_snoc' l cs c (revF a) _ ih (by rw [hlast, t1]; exact ht)
          rw [hlast, t1] at this
          rw [List.cons_append]
          simp only [ptsL]
          rw [this]
          simp
    · rw [if_neg ht] at h; cases h
theorem dup_iff : ∀ (ss : List Step) (seen : List Int), dupAt seen ss = false ↔ (ss.map (·.Section)).Nodup ∧ ∀ x ∈ ss.map (·.Section), x ∉ seen
  | [], seen => by simp [dupAt]
  | a :: ss, seen => by
    simp only [dupAt, Bool.or_eq_false_iff, decide_eq_false_iff_not, List.map_cons, List.nodup_cons]
    rw [dup_iff ss (a.Section :: seen)]
    constructor
    · rintro ⟨h1, h2, h3⟩
      refine ⟨⟨fun h => h3 _ h (by simp), h2⟩, ?_⟩
      intro x hx
      rcases List.mem_cons.1 hx with rfl | h
      · exact h1
      · exact fun h' => h3 x h (by simp [h'])
    · rintro ⟨⟨h1, h2⟩, h3⟩
      refine ⟨h3 _ (by simp), h2, ?_⟩
      intro x hx h
      rcases List.mem_cons.1 h with rfl | h
      · exact h1 hx
      · exact h3 x (by simp [hx]) h
theorem backL_secs (ss : List Step) : (backL ss).map (·.Section) = (ss.map (·.Section)).reverse := by
  unfold backL
  rw [List.map_map, List.map_reverse]
  congr 1
  apply List.map_congr_left
  intro s _
  exact rev_sec s
theorem dup_back {ss : List Step} (h : dupAt [] ss = false) : dupAt [] (backL ss) = false := by
  rw [dup_iff] at h ⊢
  rw [backL_secs]
  refine ⟨?_, by simp⟩
  have := List.reverse_perm (ss.map (·.Section))
  exact this.nodup_iff.2 h.1

theorem back_m (x : Layout) (r : Route) (hr : r.Steps.length ≤ 7) : ∀ (n k : Nat) (acc : List Step), k ≤ r.Steps.length → k < n → acc.length ≤ 1000 - k →
    iter (law7_RouteReverses_b1 r x) n (acc, (k : Int) - 1) = law7_RouteReverses_k1 r x (acc ++ backL (r.Steps.take k)) () := by
  intro n
  induction n with
  | zero => intro k acc _ h; omega
  | succ n ih =>
    intro k acc hk hn ha
    show law7_RouteReverses_b1 r x _ _ = _
    simp only [law7_RouteReverses_b1]
    cases k with
    | zero => rw [if_neg (by simp)]; simp [backL]
    | succ k =>
      have e0 : (((k + 1 : Nat) : Int) - 1) = (k : Int) := by omega
      rw [e0, if_pos (by simp), idx_nat, List.getElem?_eq_getElem (by omega), Option.bind_some, revref_m, Option.bind_some, chk_true (by simp; omega), chk_true (i64b_of (by omega) (by omega)), ih k _ (by omega) (by omega) (by simp; omega)]
      congr 1
      have : r.Steps.take (k + 1) = r.Steps.take k ++ [r.Steps[k]] := by rw [List.take_add_one, List.getElem?_eq_getElem (by omega)]; rfl
      rw [this]
      unfold backL
      rw [List.reverse_append, List.map_append, List.append_assoc]
      rfl

theorem routeReverses_plain (l c : List Int) (hl : Wf.wf l) (hc : Wf.wf c) : law7_RouteReverses_m l c = some true := by
  unfold law7_RouteReverses_m
  obtain ⟨x, ex, gx⟩ := layout_m l (by have : l.length * 8 ≤ 140737488351232 := hl.1; omega)
  have vx := gen_val gx
  have ck := gen_check gx
  obtain ⟨r, er, gr⟩ := route_wp vx c (by have : c.length * 8 ≤ 140737488351232 := hc.1; omega)
  have hlen := gr.len
  rw [ex, Option.bind_some, er, Option.bind_some, chk_true (i64b_of (by omega) (by omega)), back_m x r hlen.2 FUEL _ _ (Nat.le_refl _) (fuel_of (by omega)) (by simp <;> omega)]
  rw [List.take_length, List.nil_append]
  unfold law7_RouteReverses_k1
  have bl : (backL r.Steps).length = r.Steps.length := by simp [backL]
  by_cases h2 : r.Steps.length < 2
  · rw [if_pos (by simp; omega), awake7, Option.bind_some, rcheck_m, whn_t rfl, Option.bind_some]
    have : (pointsF x ⟨backL r.Steps, 0⟩).2 = 4 := by
      unfold pointsF
      rw [if_neg (by simp [ck]), if_neg (by simp only; omega), if_pos (by simp only; omega)]
    simp [this]
  · obtain ⟨g1, g2, q, hq⟩ := gr.good
    have e1 : pointsF x ⟨r.Steps, 0⟩ = (q, 0) := by
      unfold pointsF ptsE
      rw [if_neg (by simp [ck]), if_neg (by simp only; omega), if_neg (by simp only; omega), if_neg (by simp; exact fun s hs => g1 s hs), if_neg (by simp [g2])]
      simp only
      rw [hq]
    have hb : ∀ s ∈ backL r.Steps, isS x s = true := by
      intro s hs
      unfold backL at hs
      obtain ⟨t, ht, rfl⟩ := List.mem_map.1 hs
      exact rev_isS (g1 t (List.mem_reverse.1 ht))
    have e2 : pointsF x ⟨backL r.Steps, 0⟩ = (q.reverse, 0) := by
      unfold pointsF ptsE
      rw [if_neg (by simp [ck]), if_neg (by simp only; omega), if_neg (by simp only; omega), if_neg (by simp; exact fun s hs => hb s hs), if_neg (by simp [dup_back g2])]
      simp only
      rw [pts_back r.Steps q g1 hq]
    have e3 : resR x ⟨backL r.Steps, 0⟩ = resR x ⟨r.Steps, 0⟩ := by
      unfold resR
      rw [e1, e2]
      simp only [ne_eq, not_true_eq_false, if_false]
      congr 2
      apply uOf_congr
      intro z
      unfold usedL
      rw [e1, e2]
      simp only [List.mem_append, backL_secs, List.mem_reverse, List.mem_flatMap]
    have e4 : (resR x ⟨r.Steps, 0⟩).2 = 0 := by unfold resR; rw [e1]; simp
    have := resR_len x ⟨r.Steps, 0⟩
    rw [if_neg (by simp; omega), res_m, Option.bind_some, res_m, Option.bind_some, e3, awake7, Option.bind_some, rcheck_m, whn_t rfl, Option.bind_some, e2, sameI_m _ (by omega), e4]
    simp [whn]
end Go.Proofs.Ytnihhidbiepnhaa

/- RouteFindIsComplete, the plain law. -/
import Derived.Test.YtnihhidbiepnhaaUc
import Derived.Test.YtnihhidbiepnhaaRg
import Derived.Test.YtnihhidbiepnhaaOpens
import Derived.Test.YtnihhidbiepnhaaWRouteFindIsComplete
namespace Go.Proofs.Ytnihhidbiepnhaa
open Go.Dc
theorem found_m (y : List Route × Int × Int) (r : Route) (hl : y.1.length ≤ 1000000) (hst : ∀ q ∈ y.1, q.Steps.length ≤ 1000000) :
    iter (law7_RouteFindIsComplete_b1 y r) FUEL (false, 0) = some (decide (y.2.2 = 0) && y.1.any (fun q => decide (q = ⟨r.Steps, 0⟩))) := by
  have := iter_list (B := law7_RouteFindIsComplete_b1 y r) (fun (f : Bool) i => (f, i)) y.1 (fun _ _ => True) (fun f t => some (decide (y.2.2 = 0) && (f || t.any (fun q => decide (q = ⟨r.Steps, 0⟩))))) ?_ ?_ FUEL false 0 trivial (by omega) (fuel_of (by omega))
  · simpa using this
  · intro c f i x t _ hdr hi hx hk
    simp only [law7_RouteFindIsComplete_b1]
    have hm : x ∈ y.1 := List.mem_of_mem_drop (i := i) (by rw [hdr]; exact List.mem_cons_self)
    rw [if_pos (by simp; omega), hx]
    cases f with
    | true =>
      simp only [Bool.not_true, whn, Option.bind_some, Bool.false_eq_true, if_false]
      rw [hk true trivial]
      simp
    | false =>
      simp only [Bool.not_false, whn, Option.bind_some, if_true]
      rw [sameR_m _ _ (hst x hm), Option.bind_some, hk _ trivial]
      simp
  · intro c f _
    simp only [law7_RouteFindIsComplete_b1]
    rw [if_neg (by simp)]
    simp [law7_RouteFindIsComplete_k1, awake7]

theorem routeFindIsComplete_plain (l c : List Int) (hl : Wf.wf l) (hc : Wf.wf c) : law7_RouteFindIsComplete_m l c = some true := by
  unfold law7_RouteFindIsComplete_m
  obtain ⟨x, ex, gx⟩ := layout_m l (by have : l.length * 8 ≤ 140737488351232 := hl.1; omega)
  have vx := gen_val gx
  obtain ⟨r, er, gr⟩ := route_wp vx c (by have : c.length * 8 ≤ 140737488351232 := hc.1; omega)
  rw [ex, Option.bind_some, er, Option.bind_some]
  have hlen := gr.len
  by_cases h2 : r.Steps.length < 2
  · rw [if_pos (by simp; omega), awake7]; rfl
  · rw [if_neg (by simp; omega)]
    obtain ⟨good, _, _, _⟩ := gr
    have hne : r.Steps ≠ [] := by intro e; rw [e] at h2; simp at h2
    obtain ⟨a, b, t, est⟩ : ∃ a b t, r.Steps = a :: b :: t := by
      match hs : r.Steps with
      | [] => rw [hs] at h2; simp at h2
      | [_] => rw [hs] at h2; simp at h2
      | a :: b :: t => exact ⟨a, b, t, rfl⟩
    have e0 : idx r.Steps 0 = some a := by rw [est]; rfl
    rw [e0, Option.bind_some, chk_true (i64b_of (by omega) (by omega)), last_idx hne, Option.bind_some, find_m, Option.bind_some]
    have ha : isS x a = true := good.st a (by rw [est]; simp)
    have hla : isS x (r.Steps.getLastD default) = true := good.st _ (last_mem hne)
    obtain ⟨l0, l1, _⟩ := isS_rng hla
    have hn := gen_len gx ha (r.Steps.getLastD default).Section
    rw [gen_find gx ha l0 l1 (by omega) (by omega), if_pos (by omega)]
    have hin : r.Steps ∈ vis (hopsF x) (r.Steps.getLastD default).Section 23 [a] := by
      have := vis_all vx (r.Steps.getLastD default).Section t 23 [] a b (by simpa [est] using good) (by rw [est] at hlen; simp at hlen; omega) (by rw [est]; simp)
      rw [est] at this ⊢
      simpa using this
    have hout : (⟨r.Steps, 0⟩ : Route) ∈ outs (r.Steps.getLastD default).Section (vis (hopsF x) (r.Steps.getLastD default).Section 23 [a]) := by
      unfold outs
      exact List.mem_map.2 ⟨r.Steps, List.mem_filter.2 ⟨hin, by simp⟩, rfl⟩
    have ho := outs_len (r.Steps.getLastD default).Section (vis (hopsF x) (r.Steps.getLastD default).Section 23 [a])
    have hst : ∀ q ∈ outs (r.Steps.getLastD default).Section (vis (hopsF x) (r.Steps.getLastD default).Section 23 [a]), q.Steps.length ≤ 1000000 := fun q hq => by
      have := (vis_len _ _ _ _ _ (outs_mem hq).2.1).1
      simp at this
      omega
    generalize vis (hopsF x) (r.Steps.getLastD default).Section 23 [a] = L at hn hout ho hst
    unfold findE
    have hz : ¬ (outs (r.Steps.getLastD default).Section L).length = 0 := by
      intro e
      rw [List.length_eq_zero_iff.1 e] at hout
      simp at hout
    simp only [if_neg hz]
    rw [found_m _ _ (by simp only; omega) hst]
    congr 1
    simp only [decide_true, Bool.true_and, List.any_eq_true]
    exact ⟨_, hout, by simp⟩
end Go.Proofs.Ytnihhidbiepnhaa

/- RouteFoundAreValid, the plain law. -/
import Derived.Test.YtnihhidbiepnhaaUc
import Derived.Test.YtnihhidbiepnhaaTs
import Derived.Test.YtnihhidbiepnhaaRg
import Derived.Test.YtnihhidbiepnhaaOpens
import Derived.Test.YtnihhidbiepnhaaWRouteFoundAreValid
namespace Go.Proofs.Ytnihhidbiepnhaa
open Go.Dc
theorem routeFoundAreValid_plain (l : List Int) (v to_ : Int) (hl : Wf.wf l) (hv : -9223372036854775808 ≤ v ∧ v ≤ 9223372036854775807) (_ht : -9223372036854775808 ≤ to_ ∧ to_ ≤ 9223372036854775807) :
    law7_RouteFoundAreValid_m l v to_ = some true := by
  unfold law7_RouteFoundAreValid_m
  obtain ⟨x, ex, gx⟩ := layout_m l (by have : l.length * 8 ≤ 140737488351232 := hl.1; omega)
  have vx := (gen_val gx).full
  obtain ⟨k1, hk1, k10, k11⟩ := pick_m v (x.Sections.length : Int) (by omega) (by omega)
  obtain ⟨k2, hk2, k20, k21⟩ := pick_m (v.tdiv 50) 2 (by omega) (by omega)
  obtain ⟨k3, hk3, k30, k31⟩ := pick_m to_ (x.Sections.length : Int) (by omega) (by omega)
  rw [ex, Option.bind_some, hk1, Option.bind_some, chk_true (by rw [tdiv_i64' hv (by omega)]; rfl), hk2, Option.bind_some, hk3, Option.bind_some, find_m, Option.bind_some]
  have ha : isS x ⟨k1, k2⟩ = true := by unfold isS; simp only [Bool.and_eq_true, Bool.or_eq_true, decide_eq_true_eq]; omega
  have hn := gen_len gx ha k3
  have hF : findR x ⟨k1, k2⟩ k3 1000 = findE (some (1 + ((vis (hopsF x) k3 23 [⟨k1, k2⟩]).length : Int), outs k3 (vis (hopsF x) k3 23 [⟨k1, k2⟩]))) := by
    rw [gen_find gx ha k30 k31 (by omega) (by omega), if_pos (by omega)]
  rw [hF]
  have ho := outs_len k3 (vis (hopsF x) k3 23 [⟨k1, k2⟩])
  have hnd := outs_nodup (to_ := k3) (vis_nodup (gen_val gx) (fun s hs => (gen_few gx hs).2) k3 23 [⟨k1, k2⟩] (by simpa using ha))
  have hst : ∀ r ∈ outs k3 (vis (hopsF x) k3 23 [⟨k1, k2⟩]), r.Overlap = 0 ∧ 2 ≤ r.Steps.length ∧ r.Steps.length ≤ 24 ∧ idx r.Steps 0 = some ⟨k1, k2⟩ ∧ (r.Steps.getLastD default).Section = k3 ∧ route_Check_m x r = some 0 := fun r hr => by
    obtain ⟨h1, h2, h3⟩ := outs_mem hr
    obtain ⟨h4, q, hq, e⟩ := vis_len _ _ _ _ _ h2
    have hl2 : 2 ≤ r.Steps.length := by
      rw [e]
      have : 0 < q.length := List.length_pos_iff.2 hq
      simp; omega
    have hl24 : r.Steps.length ≤ 24 := by simp at h4; omega
    refine ⟨h1, hl2, hl24, by rw [e]; rfl, h3, ?_⟩
    have g := vis_good (gen_val gx) k3 23 [⟨k1, k2⟩] r.Steps (by simp) (good_one ha) h2
    have := good_valid (gen_check gx) g hl2 hl24
    rw [rcheck_m]
    have er : r = ⟨r.Steps, 0⟩ := by obtain ⟨a, b⟩ := r; simp only at h1; subst h1; rfl
    rw [er]
    rw [this]
  generalize vis (hopsF x) k3 23 [⟨k1, k2⟩] = L at hn ho hnd hst
  unfold findE
  by_cases hz : (outs k3 L).length = 0
  · simp only [if_pos hz]
    rw [if_pos (by simp), awake7, Option.bind_some]
    simp
  · simp only [if_neg hz]
    rw [if_neg (by simp)]
    have := iter_list (B := law7_RouteFoundAreValid_b1 (outs k3 L, 1 + (L.length : Int), 0) k1 k2 k3 x) (fun (_ : Unit) i => i) (outs k3 L) (fun _ _ => True) (fun _ _ => some true) ?_ ?_ FUEL () 0 trivial (by omega) (fuel_of (by omega))
    · simpa using this
    · intro c _ i r t _ hdr hi hx hk
      have hm : r ∈ outs k3 L := List.mem_of_mem_drop (i := i) (by rw [hdr]; exact List.mem_cons_self)
      obtain ⟨h1, h2, h3, h4, h5, h6⟩ := hst r hm
      have hne : r.Steps ≠ [] := by intro e; rw [e] at h2; simp at h2
      simp only [law7_RouteFoundAreValid_b1]
      rw [if_pos (by simp; omega), hx]
      simp only [Option.bind_some]
      have g1 : (decide (r.Overlap ≠ 0) || decide ((r.Steps.length : Int) < 2)) = false := by simp [h1]; omega
      rw [g1, h4]
      simp only [Bool.not_false, whn, Option.bind_some, decide_true, Bool.not_true, Bool.or_self, Bool.false_or]
      rw [chk_true (i64b_of (by omega) (by omega)), last_idx hne, Option.bind_some]
      have g2 : decide ((r.Steps.getLastD default).Section ≠ k3) = false := by rw [h5]; simp
      rw [g2]
      simp only [Bool.not_false, whn, Option.bind_some, if_true]
      rw [h6, Option.bind_some, if_neg (by simp)]
      have inner := iter_list (B := law7_RouteFoundAreValid_b2 i (outs k3 L, 1 + (L.length : Int), 0) c) (fun (_ : Unit) k => k) ((outs k3 L).take i) (fun _ _ => True) (fun _ _ => some true) ?_ ?_ FUEL () 0 trivial (by omega) (fuel_of (by simp; omega))
      · simpa using inner
      · intro c2 _ k q t2 _ hdr2 hk2 hx2 hc2
        have hki : k < i := by simp at hk2; omega
        have hxk : idx (outs k3 L) (k : Int) = some q := by
          rw [idx_nat] at hx2 ⊢
          rw [List.getElem?_take] at hx2
          rw [if_pos hki] at hx2
          exact hx2
        simp only [law7_RouteFoundAreValid_b2]
        rw [if_pos (by simp; omega), hx, Option.bind_some, hxk, Option.bind_some, sameR_m _ _ (by omega), Option.bind_some]
        have hneq : r ≠ q := by
          rw [idx_nat] at hx hxk
          intro e
          subst e
          have h7 := (List.getElem?_eq_some_iff.1 hx).2
          have h8 := (List.getElem?_eq_some_iff.1 hxk).2
          exact (List.pairwise_iff_getElem.1 hnd) k i (by omega) hi hki (h8.trans h7.symm)
        rw [if_neg (by simpa using hneq), chk_true (i64b_of (by omega) (by omega)), hc2 () trivial]
      · intro c2 _ _
        simp only [law7_RouteFoundAreValid_b2]
        rw [if_neg (by simp; omega)]
        simp only [law7_RouteFoundAreValid_k2]
        rw [hk () trivial]
    · intro c _ _
      simp only [law7_RouteFoundAreValid_b1]
      rw [if_neg (by simp)]
      simp only [law7_RouteFoundAreValid_k1]
      rw [awake7, Option.bind_some]
      congr 1
      simp only [Bool.true_and, Bool.and_eq_true, decide_eq_true_eq]
      omega
end Go.Proofs.Ytnihhidbiepnhaa

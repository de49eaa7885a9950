/- RouteBudget, the plain law. -/
import Derived.Test.YtnihhidbiepnhaaUc
import Derived.Test.YtnihhidbiepnhaaTs
import Derived.Test.YtnihhidbiepnhaaRg
import Derived.Test.YtnihhidbiepnhaaOpens
import Derived.Test.YtnihhidbiepnhaaWRouteBudget
namespace Go.Proofs.Ytnihhidbiepnhaa
open Go.Dc
theorem routeBudget_plain (l : List Int) (v to_ : Int) (hl : Wf.wf l) (hv : -9223372036854775808 ≤ v ∧ v ≤ 9223372036854775807) (_ht : -9223372036854775808 ≤ to_ ∧ to_ ≤ 9223372036854775807) :
    law7_RouteBudget_m l v to_ = some true := by
  unfold law7_RouteBudget_m
  obtain ⟨x, ex, gx⟩ := layout_m l (by have : l.length * 8 ≤ 140737488351232 := hl.1; omega)
  have vx := (gen_val gx).full
  obtain ⟨k1, hk1, k10, k11⟩ := pick_m v (x.Sections.length : Int) (by omega) (by omega)
  obtain ⟨k2, hk2, k20, k21⟩ := pick_m (v.tdiv 50) 2 (by omega) (by omega)
  obtain ⟨k3, hk3, k30, k31⟩ := pick_m to_ (x.Sections.length : Int) (by omega) (by omega)
  rw [ex, Option.bind_some, hk1, Option.bind_some, chk_true (by rw [tdiv_i64' hv (by omega)]; rfl), hk2, Option.bind_some, hk3, Option.bind_some, find_m, Option.bind_some]
  have ha : isS x ⟨k1, k2⟩ = true := by unfold isS; simp only [Bool.and_eq_true, Bool.or_eq_true, decide_eq_true_eq]; omega
  have hn := gen_len gx ha k3
  have hF : findR x ⟨k1, k2⟩ k3 1000 = findE (some (1 + ((vis (hopsF x) k3 23 [⟨k1, k2⟩]).length : Int), outs k3 (vis (hopsF x) k3 23 [⟨k1, k2⟩]))) := by
    rw [gen_find gx ha k30 k31 (by omega) (by omega), if_pos (by omega)]
  rw [hF]
  simp only [find_m]
  have ho := outs_len k3 (vis (hopsF x) k3 23 [⟨k1, k2⟩])
  have hst : ∀ r ∈ outs k3 (vis (hopsF x) k3 23 [⟨k1, k2⟩]), r.Steps.length ≤ 1000000 := fun r hr => by
    have := (vis_len _ _ _ _ _ (outs_mem hr).2.1).1
    simp at this
    omega
  have hfind : ∀ b : Int, 1 ≤ b → b ≤ 1000 → findR x ⟨k1, k2⟩ k3 b = _ := fun b h1 h2 => gen_find gx ha k30 k31 h1 h2
  generalize vis (hopsF x) k3 23 [⟨k1, k2⟩] = L at hn ho hst hfind
  unfold findE
  by_cases hz : (outs k3 L).length = 0
  · simp only [if_pos hz]
    rw [if_pos (by simp), awake7, Option.bind_some]
    simp
  · simp only [if_neg hz]
    rw [if_neg (by simp; omega)]
    rw [hfind _ (by omega) (by omega), if_pos (by omega)]
    simp only [findE, if_neg hz, Option.bind_some]
    rw [chk_true (i64b_of (by omega) (by omega)), hfind _ (by omega) (by omega), if_neg (by omega), awake7, Option.bind_some, sameRs_m _ (by omega) hst, whn_v, Option.bind_some]
    simp [findE]
end Go.Proofs.Ytnihhidbiepnhaa

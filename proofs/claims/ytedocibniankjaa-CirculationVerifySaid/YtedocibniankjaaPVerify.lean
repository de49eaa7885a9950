/- CirculationVerify, the plain law. -/
import Derived.Test.YtedocibniankjaaQj
import Derived.Test.YtedocibniankjaaCe
import Derived.Test.YtedocibniankjaaWCirculationVerify
namespace Go.Proofs.Ytedocibniankjaa
open Go.Dc

theorem pickv_wp (v n : Int) (h0 : 1 ≤ n) (h1 : n ≤ 4611686018427387904) : WP (keep_Pick_m v n) (fun k => 0 ≤ k ∧ k < n) := by
  obtain ⟨k, e, h⟩ := pick_m v n h0 h1
  exact ⟨k, e, h⟩
theorem asc_len {l : List Int} {n : Nat} (h : AscL l n) : l.length ≤ n := by
  have key : ∀ k : Nat, k < l.length → (k : Int) ≤ gi l k := by
    intro k
    induction k with
    | zero => intro hk; exact (h 0 (by omega) (by omega)).1
    | succ k ih =>
      intro hk
      have a := ih (by omega)
      have b := (h ((k + 1 : Nat) : Int) (by omega) (by omega)).2.2 (by omega)
      rw [show ((k + 1 : Nat) : Int) - 1 = k by omega] at b
      omega
  refine Classical.byContradiction fun hgt => ?_
  have a := key (l.length - 1) (by omega)
  have b := (h ((l.length - 1 : Nat) : Int) (by omega) (by omega)).2.1
  omega

theorem circVerify_k {ts : List Task} {r : Rules} (T : TV ts r) (next : List Int) (c : Cover) (hn : next.length ≤ 140737488355328) (hc1 : c.Left.length ≤ 140737488355328) (hc2 : c.Right.length ≤ 140737488355328)
    (m L R : List Int) (hm : m.length ≤ 140737488355328) (hL : L.length ≤ 140737488355328) (hR : R.length ≤ 140737488355328) : WP (law28_CirculationVerify_k1 (ts, r) next c (m, L, R)) (fun b => b = true) := by
  simp only [law28_CirculationVerify_k1]
  obtain ⟨x1, e1, p1, q1⟩ := empty_wp T m
  obtain ⟨x2, e2, p2, q2⟩ := emptyS_wp T m
  obtain ⟨x3, e3, p3, q3⟩ := empty_wp T next
  obtain ⟨x4, e4, p4, q4⟩ := emptyS_wp T next
  have h12 : x1 = x2 := by
    by_cases C : Circ ts r m
    · rw [p1 C, p2 C]
    · rw [q1 C, q2 C]
  have h34 : x3 = x4 := by
    by_cases C : Circ ts r next
    · rw [p3 C, p4 C]
    · rw [q3 C, q4 C]
  subst h12 h34
  obtain ⟨b1, f1, g1⟩ := verify_wp T m (Cover.mk L R) hL hR
  obtain ⟨b2, f2, g2⟩ := verifyC_wp T m (Cover.mk L R) hm hL hR
  obtain ⟨b3, f3, g3⟩ := verify_wp T next c hc1 hc2
  obtain ⟨b4, f4, g4⟩ := verifyC_wp T next c hn hc1 hc2
  have i12 : b1 = b2 := by
    have : b1 = true ↔ b2 = true := g1.trans g2.symm
    cases b1 <;> cases b2 <;> simp_all
  have i34 : b3 = b4 := by
    have : b3 = true ↔ b4 = true := g3.trans g4.symm
    cases b3 <;> cases b4 <;> simp_all
  subst i12 i34
  refine wp_is e1 (wp_is e2 (wp_is e3 (wp_is e4 (wp_is awake28 ?_))))
  rw [f1, f2, f3, f4]
  refine wp_whn (fun _ => wp_is rfl ?_) (fun h => by cases h)
  refine wp_whn (fun _ => wp_is rfl ?_) (fun h => by cases h)
  refine wp_whn (fun _ => wp_is rfl ?_) (fun h => by simp at h)
  refine wp_whn (fun _ => wp_is rfl ?_) (fun h => by simp at h)
  exact wp_some (by simp)

theorem circVerify_plain (l next : List Int) (c : Cover) (how at_ v : Int) (hl : Wf.wf l) (hn : Wf.wf next) (hc : Wf.wf c) (_ : -9223372036854775808 ≤ how ∧ how ≤ 9223372036854775807) (_ : -9223372036854775808 ≤ at_ ∧ at_ ≤ 9223372036854775807) (_ : -9223372036854775808 ≤ v ∧ v ≤ 9223372036854775807) :
    law28_CirculationVerify_m l next c how at_ v = some true := by
  have k : WP (law28_CirculationVerify_m l next c how at_ v) (fun b => b = true) := by
    obtain ⟨⟨ts, r⟩, hy, hg, g1, g2, g3⟩ := tasks_m l (wf_len hl)
    simp only at hg g1
    have T : TV ts r := ⟨hg⟩
    have n1 := wf_len hn
    have n2 := wf_len hc.1
    have n3 := wf_len hc.2
    unfold law28_CirculationVerify_m
    refine wp_is hy ?_
    simp only
    refine wp_bind _ (build_wp T (by omega)) ?_
    rintro ⟨m, ⟨L, R⟩, e⟩ ⟨he, B⟩
    simp only at he B
    subst he
    have ml := B.cov.ci.len
    have ll := asc_len B.cov.la
    have rl := asc_len B.cov.ra
    simp only at ll rl
    refine wp_ite (fun h => by simp at h; omega) (fun _ => ?_)
    simp only [List.nil_append, List.length_nil, Nat.zero_add]
    refine wp_chk (by simp; omega) ?_
    refine wp_bind _ (pickv_wp how 4 (by omega) (by omega)) ?_
    rintro q ⟨q0, q1⟩
    refine wp_ite (fun _ => ?_) (fun _ => ?_)
    · refine wp_ite (fun h => ?_) (fun _ => ?_)
      · simp only [decide_eq_true_eq] at h
        refine wp_bind _ (pickv_wp at_ _ (by omega) (by omega)) ?_
        rintro a ⟨a0, a1⟩
        refine wp_i64 (by omega) ?_
        refine wp_bind _ (pickv_wp v _ (by omega) (by omega)) ?_
        rintro b ⟨b0, b1⟩
        refine wp_i64 (by omega) (wp_idxi (by omega) ?_)
        exact circVerify_k T next c n1 n2 n3 _ _ _ (by rw [List.length_set]; omega) (by omega) (by omega)
      · exact circVerify_k T next c n1 n2 n3 _ _ _ (by omega) (by omega) (by omega)
    · refine wp_ite (fun _ => ?_) (fun _ => ?_)
      · refine wp_chk (by simp; omega) ?_
        refine wp_bind _ (pickv_wp v 6 (by omega) (by omega)) ?_
        rintro b ⟨b0, b1⟩
        refine wp_chk (by simp; omega) ?_
        exact circVerify_k T next c n1 n2 n3 _ _ _ (by omega) (by simp; omega) (by omega)
      · refine wp_ite (fun _ => ?_) (fun _ => ?_)
        · refine wp_i64 (by omega) ?_
          have hsub : ∃ x, sub R 0 (if ((R.length : Int) - 1) > 0 then ((R.length : Int) - 1) else 0) = some x ∧ x.length ≤ R.length := by
            unfold sub
            rw [if_pos (by split <;> omega)]
            refine ⟨_, rfl, ?_⟩
            simp only [List.length_drop, List.length_take]
            omega
          obtain ⟨x, hx, hxl⟩ := hsub
          refine wp_is hx ?_
          exact circVerify_k T next c n1 n2 n3 _ _ _ (by omega) (by omega) (by omega)
        · exact circVerify_k T next c n1 n2 n3 _ _ _ (by omega) (by omega) (by omega)
  obtain ⟨b, h1, rfl⟩ := k
  exact h1
end Go.Proofs.Ytedocibniankjaa

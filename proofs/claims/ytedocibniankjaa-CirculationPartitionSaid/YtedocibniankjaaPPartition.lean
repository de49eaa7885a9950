/- CirculationPartition, the plain law. -/
import Derived.Test.YtedocibniankjaaQj
import Derived.Test.YtedocibniankjaaQk
import Derived.Test.YtedocibniankjaaCe
import Derived.Test.YtedocibniankjaaWCirculationPartition
namespace Go.Proofs.Ytedocibniankjaa
open Go.Dc

theorem circPartition_plain (l : List Int) (hl : Wf.wf l) : law28_CirculationPartition_m l = some true := by
  have k : WP (law28_CirculationPartition_m l) (fun b => b = true) := by
    obtain ⟨⟨ts, r⟩, hy, hg, g1, g2, g3⟩ := tasks_m l (wf_len hl)
    simp only at hg g1
    have T : TV ts r := ⟨hg⟩
    unfold law28_CirculationPartition_m
    refine wp_is hy ?_
    simp only
    refine wp_bind _ (build_wp T (by omega)) ?_
    rintro ⟨next, c, e⟩ ⟨he, B⟩
    simp only at he B
    subst he
    have C := B.cov.ci
    have hlen := C.len
    refine wp_bind _ (chains_wp T C) ?_
    rintro ⟨chs, e⟩ ⟨he, H⟩
    simp only at he H
    subst he
    have jb := jn_bd next ts.length
    have cl : chs.length ≤ ts.length := by have := H.cnt; omega
    refine wp_whn (fun _ => ?_) (fun h => by simp at h)
    refine wp_bind _ (joined_wp next (by omega)) ?_
    rintro _ rfl
    rw [hlen]
    refine wp_chk (by simp [i64b]; omega) (wp_ite (fun h => ?_) (fun _ => ?_))
    · simp only [Bool.or_eq_true, decide_eq_true_eq] at h
      have := H.cnt
      simp at h
      omega
    · have g8 : ∀ k : Int, 0 ≤ k → k < 8 → gi (List.replicate 8 (0 : Int)) k = 0 := fun k k0 k1 => gi_rep _ _ _ k0 k1
      have total : ∀ k : Int, 0 ≤ k → k < ts.length → ∀ i : Nat, ((chs.take i).flatten.count k : Int) ≤ 1 := fun k k0 k1 i => by
        have a := H.one k k0 k1
        have b : chs.flatten = (chs.take i).flatten ++ (chs.drop i).flatten := by rw [← List.flatten_append, List.take_append_drop]
        rw [b, List.count_append] at a
        omega
      refine wp_iter (fun (t : List Int × Nat) => t.2 ≤ chs.length ∧ t.1.length = 8 ∧ ∀ k : Int, 0 ≤ k → k < ts.length → gi t.1 k = ((chs.take t.2).flatten.count k : Int)) (fun t => 100 - t.2) _ ?_ FUEL _ ⟨Nat.zero_le _, by simp, fun k k0 k1 => by simp only; rw [g8 k k0 (by omega)]; simp⟩ (fuel_of (by simp only; omega))
      rintro k1 ⟨seen, t⟩ ⟨ht, hsl, hseen⟩ hc
      simp only at ht hsl hseen hc
      simp only [law28_CirculationPartition_b1]
      refine wp_ite (fun h => ?_) (fun h => ?_)
      · simp only [decide_eq_true_eq] at h
        have hlt : t < chs.length := by omega
        have hcm : chs[t] ∈ chs := List.getElem_mem hlt
        have hcr := H.rg _ hcm
        have hcs := H.st _ hcm
        have hcn := H.ne _ hcm
        refine wp_idx (x := chs[t]) (by omega) (by simp [hlt]) ?_
        have htk : chs.take (t + 1) = chs.take t ++ [chs[t]] := List.take_succ_eq_append_getElem hlt
        refine wp_iter (fun (s : List Int × Nat) => s.2 ≤ chs[t].length ∧ s.1.length = 8 ∧ ∀ k : Int, 0 ≤ k → k < ts.length → gi s.1 k = ((chs.take t).flatten.count k : Int) + ((chs[t].take s.2).count k : Int)) (fun s => 100 - s.2) _ ?_ FUEL _ ⟨Nat.zero_le _, hsl, fun k k0 k1 => by simp only; rw [hseen k k0 k1]; simp⟩ (fuel_of (by simp only; omega))
        rintro k2 ⟨se, i⟩ ⟨hi, hsel, hse⟩ hc2
        simp only at hi hsel hse hc2
        simp only [law28_CirculationPartition_b2]
        refine wp_ite (fun h2 => ?_) (fun h2 => ?_)
        · simp only [decide_eq_true_eq] at h2
          have hlt2 : i < chs[t].length := by omega
          have gx : gi chs[t] i = chs[t][i] := by unfold gi; simp [hlt2]
          obtain ⟨x0, x1⟩ := hcr _ (List.getElem_mem hlt2)
          rw [← gx] at x0 x1
          refine wp_idxi (by omega) (wp_ite (fun hb => ?_) (fun _ => ?_))
          · simp only [Bool.or_eq_true, decide_eq_true_eq] at hb; omega
          · have sx := hse _ x0 x1
            have ub : gi se (gi chs[t] i) ≤ 100 := by
              have a := List.count_le_length (a := gi chs[t] i) (l := chs[t].take i)
              have b := total _ x0 x1 t
              rw [List.length_take] at a
              omega
            refine wp_idxi (by omega) (wp_i64 (by omega) (wp_idxi (by omega) ?_))
            have go : WP (law28_CirculationPartition_k3 k2 i (se.set (gi chs[t] i).toNat (gi se (gi chs[t] i) + 1))) (fun b => b = true) := by
              refine hc2 _ ⟨by simp only; omega, by simp only [List.length_set]; exact hsel, fun k k0 k1 => ?_⟩ (by simp only; omega)
              simp only
              rw [gi_set _ _ _ _ x0 k0 (by omega), List.take_succ_eq_append_getElem hlt2, List.count_append, ← gx]
              by_cases e : k = gi chs[t] i
              · rw [if_pos e, e, sx]; simp; omega
              · rw [if_neg e, hse k k0 k1, List.count_singleton]
                have : (gi chs[t] i == k) = false := by simp [Ne.symm e]
                simp [this]
            refine wp_ite (fun hp => ?_) (fun _ => go)
            simp only [decide_eq_true_eq] at hp
            obtain ⟨s1, s2⟩ := hcs i hp h2
            have gy : gi chs[t] ((i : Int) - 1) = chs[t][i - 1] := by
              have : i - 1 < chs[t].length := by omega
              unfold gi
              rw [show ((i : Int) - 1).toNat = i - 1 by omega]
              simp [this]
            obtain ⟨y0, y1⟩ := hcr _ (List.getElem_mem (by omega : i - 1 < chs[t].length))
            rw [← gy] at y0 y1
            refine wp_i64 (by omega) (wp_idxi (by omega) (wp_idxt (by omega) (wp_idxt (by omega) (wp_is (T.fo _ y0 y1).2 (wp_ite (fun hf => ?_) (fun _ => go))))))
            rcases C.ok _ y0 y1 with h' | ⟨_, _, hf'⟩
            · rw [s1] at h'; exact absurd h' s2
            · rw [s1] at hf'
              unfold fok at hf'
              rw [hf'] at hf; cases hf
        · simp only [decide_eq_false_iff_not] at h2
          obtain rfl : i = chs[t].length := by omega
          simp only [law28_CirculationPartition_k2]
          refine hc _ ⟨by simp only; omega, hsel, fun k k0 k1 => ?_⟩ (by simp only; omega)
          simp only
          rw [hse k k0 k1, htk, List.flatten_append, List.count_append, List.take_length]
          simp
      · simp only [decide_eq_false_iff_not] at h
        obtain rfl : t = chs.length := by omega
        rw [List.take_length] at hseen
        simp only [law28_CirculationPartition_k1]
        refine wp_iter (fun (t : Nat) => t ≤ ts.length) (fun t => 100 - t) _ ?_ FUEL _ (Nat.zero_le _) (fuel_of (by omega))
        intro k3 t ht3 hc3
        simp only [law28_CirculationPartition_b3]
        refine wp_ite (fun h3 => ?_) (fun h3 => ?_)
        · simp only [decide_eq_true_eq] at h3
          refine wp_idxi (by omega) (wp_ite (fun hx => ?_) (fun _ => ?_))
          · simp only [decide_eq_true_eq] at hx
            rw [hseen t (by omega) h3, H.one t (by omega) h3] at hx
            exact absurd rfl hx
          · exact hc3 _ (by omega) (by omega)
        · simp only [law28_CirculationPartition_k4]
          exact wp_is awake28 (wp_some rfl)
  obtain ⟨b, h1, rfl⟩ := k
  exact h1
end Go.Proofs.Ytedocibniankjaa

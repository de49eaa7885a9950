/- CirculationSplit, the plain law. -/
import Derived.Test.YtedocibniankjaaQt
import Derived.Test.YtedocibniankjaaCe
import Derived.Test.YtedocibniankjaaWCirculationSplit
namespace Go.Proofs.Ytedocibniankjaa
open Go.Dc

theorem circSplit_plain (l raw : List Int) (limit : Int) (hl : Wf.wf l) (hw : Wf.wf raw) (_ : -9223372036854775808 ≤ limit ∧ limit ≤ 9223372036854775807) : law28_CirculationSplit_m l raw limit = some true := by
  have k : WP (law28_CirculationSplit_m l raw limit) (fun b => b = true) := by
    obtain ⟨⟨ts, r⟩, hy, hg, g1, g2, g3⟩ := tasks_m l (wf_len hl)
    simp only at hg g1
    have T0 : TV ts r := ⟨hg⟩
    have rl := wf_len hw
    unfold law28_CirculationSplit_m
    refine wp_is hy ?_
    simp only
    obtain ⟨q, hq, q0, q1⟩ := pick_m limit 90 (by omega) (by omega)
    refine wp_is hq (wp_i64 (by omega) ?_)
    have T := tv_limit T0 (L := 1 + q) (by omega) (by omega)
    refine wp_bind _ (build_wp T (by omega)) ?_
    rintro ⟨next, c, e⟩ ⟨he, B⟩
    simp only at he B
    subst he
    have C := B.cov.ci
    have hlen := C.len
    simp only
    rw [chains_eq]
    refine wp_bind _ (chains_wp T C) ?_
    rintro ⟨chs, e⟩ ⟨he, H⟩
    simp only at he H
    subst he
    have jb := jn_bd next ts.length
    have cl : chs.length ≤ ts.length := by have := H.cnt; omega
    refine wp_ite (fun h => by simp at h; omega) (fun _ => ?_)
    refine wp_chk (by simp; omega) ?_
    have all : ∀ x ∈ chs ++ [raw], x.length ≤ 140737488355328 := fun x hx => by
      rw [List.mem_append, List.mem_singleton] at hx
      rcases hx with hx | rfl
      · have := (H.ne x hx).2; omega
      · exact rl
    refine wp_iter (fun (t : Nat) => t ≤ (chs ++ [raw]).length) (fun t => 100 - t) _ ?_ FUEL _ (Nat.zero_le _) (fuel_of (by omega))
    intro k1 t ht hc
    simp only [law28_CirculationSplit_b1]
    refine wp_ite (fun h => ?_) (fun h => ?_)
    · simp only [decide_eq_true_eq] at h
      have hlt : t < (chs ++ [raw]).length := by omega
      refine wp_idx (x := (chs ++ [raw])[t]) (by omega) (by simp [hlt]) ?_
      obtain ⟨y, h1, h2, _, h4⟩ := split_both T (chs ++ [raw])[t] (all _ (List.getElem_mem hlt))
      refine wp_is h1 (wp_is h2 (wp_is h4 (wp_ite (fun h' => by simp at h') (fun _ => ?_))))
      have ll : (chs ++ [raw]).length ≤ 50 := by simp; omega
      exact hc _ (by omega) (by omega)
    · simp only [law28_CirculationSplit_k1]
      exact wp_is awake28 (wp_some rfl)
  obtain ⟨b, h1, rfl⟩ := k
  exact h1
end Go.Proofs.Ytedocibniankjaa

/- Plain law of CirculationChains. -/
import Derived.Test.YtedocibniankjaaPh
import Derived.Test.YtedocibniankjaaWCirculationChains
namespace Go.Proofs.Ytedocibniankjaa
open Go.Dc

theorem circChains_k (next raw : List Int) : law28_CirculationChains_k1 next raw () = some true := by
  obtain ⟨y, hy, y1, y2⟩ := chains_some next
  obtain ⟨z, hz, z1, z2⟩ := chains_some raw
  simp only [law28_CirculationChains_k1, chains_eq, hy, hz, Option.bind_some, awake28, whn, if_true]
  rw [sameLists_m y.1 (by omega) (fun c hc => by have := y2 c hc; omega), sameLists_m z.1 (by omega) (fun c hc => by have := z2 c hc; omega)]
  simp

theorem circChains_plain (raw l : List Int) (_ : Wf.wf raw) (hl : Wf.wf l) : law28_CirculationChains_m raw l = some true := by
  have hi : SrcOk l 0 := ⟨by omega, by omega, wf_len hl⟩
  unfold law28_CirculationChains_m keep_From_m
  simp only [Option.bind_some]
  obtain ⟨a1, j1, e1, a10, a11, hi1⟩ := next_m hi 7 (by omega) (by omega)
  rw [e1]; simp only [Option.bind_some]
  suffices h : ∃ y, iter (law28_CirculationChains_b1 (Keep_Source.mk l 0) raw) FUEL (([] : List Int), j1, a1) = some y ∧ y = true by
    obtain ⟨y, hy, e⟩ := h
    rw [hy, e]
  refine iter_post (B := law28_CirculationChains_b1 (Keep_Source.mk l 0) raw) (fun (s : List Int × Int × Int) => SrcOk l s.2.1 ∧ 0 ≤ s.2.2 ∧ (s.1.length : Int) + s.2.2 ≤ 7) (fun s => s.2.2.toNat) (fun y => y = true) ?_ FUEL (([] : List Int), j1, a1) ⟨hi1, a10, by simp; omega⟩ (FUEL_big (by simp only; omega))
  · rintro c ⟨nx, i, k⟩ ⟨hi, hk, hkl⟩ hc
    simp only at hi hk hkl hc
    simp only [law28_CirculationChains_b1]
    by_cases h : 0 < k
    · simp only [h, decide_true, if_true]
      obtain ⟨a2, j2, e2, a20, a21, hi2⟩ := next_m hi 9 (by omega) (by omega)
      rw [e2]; simp only [Option.bind_some]
      rw [chk_true (i64b_of (by omega) (by omega)), chk_true (by simp; omega), chk_true (i64b_of (by omega) (by omega))]
      exact hc _ ⟨hi2, by simp only; omega, by simp only [List.length_append, List.length_singleton]; omega⟩ (by simp only; omega)
    · simp only [h, decide_false, Bool.false_eq_true, if_false]
      exact ⟨true, circChains_k nx raw, rfl⟩
end Go.Proofs.Ytedocibniankjaa

/- Plain law of CirculationFollows. -/
import Derived.Test.YtedocibniankjaaPg
import Derived.Test.YtedocibniankjaaWCirculationFollows
namespace Go.Proofs.Ytedocibniankjaa
open Go.Dc
theorem circFollows_plain (l : List Int) (hl : Wf.wf l) : law28_CirculationFollows_m l = some true := by
  obtain ⟨⟨ts, r⟩, hy, hg, g1, g2, g3⟩ := tasks_m l (wf_len hl)
  simp only [tasksB, Bool.and_eq_true] at hg
  obtain ⟨hlen, hts, hes, hsh, hli⟩ := hg
  simp only at g1 g2 g3
  unfold law28_CirculationFollows_m
  rw [hy]
  simp only [Option.bind_some]
  have hT := List.all_eq_true.1 hts
  have hli' := hli
  simp [limB] at hli'
  rw [iter_all ts (fun _ => true) (some true) (some false) ?_ ?_ (FUEL_big (by omega))]
  · simp
  · intro c i x hi hg hx
    have h1 : ((i : Int) < (ts.length : Int)) := by omega
    have hxT := hT x (List.mem_of_getElem? hg)
    have hxT' := hxT
    simp [taskB] at hxT'
    simp only [law28_CirculationFollows_b1, h1, decide_true, if_true, hx, Option.bind_some]
    rw [iter_all ts (fun _ => true) (c (i + 1)) (some false) ?_ ?_ (FUEL_big (by omega))]
    · simp
    · intro c2 j z hj hgz hz
      have h2 : ((j : Int) < (ts.length : Int)) := by omega
      have hle := fw_le r x z
      have hbd := fw_bd r x z hes
      have hb1 : i64b (x.End + r.Turn) = true := i64b_of (by omega) (by omega)
      have hb2 : i64b (x.End + r.Turn + (fw r x z).1) = true := i64b_of (by omega) (by omega)
      simp only [law28_CirculationFollows_b2, h2, decide_true, if_true, hz, Option.bind_some, follows_m r x z hxT hli hes (by omega), followsR_m r x z hxT hli hes (by omega), hb1, hb2, Bool.or_true, chk_true (rfl : true = true)]
      cases hf : (fw r x z).2
      · simp
      · have : ¬ z.Start < x.End + r.Turn + (fw r x z).1 := by have := hle hf; omega
        simp [this]
    · intro c2
      simp [law28_CirculationFollows_b2, law28_CirculationFollows_k2]
  · intro c
    simp [law28_CirculationFollows_b1, law28_CirculationFollows_k1, awake28]
end Go.Proofs.Ytedocibniankjaa

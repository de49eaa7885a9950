/- PlanRaw, the plain law. -/
import Derived.Test.YtcalibhfgdncaaaGreatDoorSm
import Derived.Test.YtcalibhfgdncaaaGreatDoorOpens
import Derived.Test.YtcalibhfgdncaaaGreatDoorWPlanRaw
set_option linter.all false
namespace Go.Proofs.YtcalibhfgdncaaaGreatDoor
open Go.Dc
theorem zA {g : Nat → Option Int} {k : Option Int} (hg : ∀ j, ∃ e, g j = some e) (hk : ∃ e, k = some e) : ∀ m i, ∃ e, errs g k m i = some e := by
 intro m
 induction m with
 | zero => intro _; exact hk
 | succ m ih =>
  intro i
  obtain ⟨e, he⟩ := hg i
  simp only [errs]
  rw [he, Option.bind_some]
  split
  ·exact ⟨e, rfl⟩
  ·exact ih (i + 1)
theorem afg (l : Layout) (p : Plan) (i : Nat) : ∃ e, vG l p i = some e := by
 unfold vG
 split
 ·exact ⟨_, rfl⟩
 split
 ·exact ⟨_, rfl⟩
 split
 ·exact ⟨_, rfl⟩
 split
 ·exact ⟨_, rfl⟩
 exact zA (fun j => ⟨_, rfl⟩) ⟨_, rfl⟩ _ _
theorem afX (l : Layout) (p : Plan) : ∃ e, tJ l p = some e := by
 unfold tJ
 split
 ·exact ⟨_, rfl⟩
 exact zA (fun j => ⟨_, rfl⟩) (zA (fun j => ⟨_, rfl⟩) (zA (afg l p) (zA (fun j => ⟨_, rfl⟩) (zA (fun j => ⟨_, rfl⟩) (zA (fun j => ⟨_, rfl⟩) (zA (fun j => ⟨_, rfl⟩) ⟨_, rfl⟩ _ _) _ _) _ _) _ _) _ _) _ _) _ _
theorem UC (l : Layout) (p : Plan) : DU l p = some true := by
 obtain ⟨e, he⟩ := afX l p
 unfold DU
 rw [abz, he, Option.bind_some, Option.bind_some, aby, he, Option.bind_some, Option.bind_some, Ve, he, Option.bind_some, Vb, he, Option.bind_some]
 simp
theorem aay : Ju = some true := by decide +kernel
theorem afY (l : Layout) (p : Plan) (_ : Wf.wf l) (_ : Wf.wf p) : MK l p = some true := by
 have h := aay
 unfold MK
 rw [h, Option.bind_some, o9 rfl, UC, Option.bind_some, if_pos (show (true && true) = true from rfl)]
 unfold Ju at h
 cases he : Jv with
 | none => rw [he] at h; cases h
 | some x => rw [Option.bind_some, UC, Option.bind_some]; rfl
end Go.Proofs.YtcalibhfgdncaaaGreatDoor

/- Plain laws of chapter 27: what the laws share. -/
import Derived.Test.YtedocibniankjaaQ9
import Derived.Test.YtedocibniankjaaOpens
import Derived.Test.YtedocibniankjaaFg
namespace Go.Proofs.Ytedocibniankjaa
open Go.Dc

theorem wp_true {o : Option Bool} (h : WP o (fun b => b = true)) : o = some true := by
  obtain ⟨b, h1, rfl⟩ := h; exact h1
theorem wf_len {l : List Int} (h : Wf.wf l) : l.length ≤ 140737488355328 := by
  have h := h.1
  have e : GoRep.bytes Int = 8 := rfl
  rw [e] at h
  omega
/-- A value that is known. -/
theorem wp_eq {α β : Type} {o : Option α} {y : α} {K : α → Option β} {Q : β → Prop} (h : o = some y) (hk : WP (K y) Q) : WP (o.bind K) Q := by rw [h]; exact hk
end Go.Proofs.Ytedocibniankjaa

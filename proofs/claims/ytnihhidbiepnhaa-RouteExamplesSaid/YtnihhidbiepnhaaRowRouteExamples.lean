/- RouteExamples: for every input the law returns true, and each argument reads afterwards as it read before. No conditions beyond the row's own. -/
import Derived.Test.YtnihhidbiepnhaaRows
import Derived.WalkKit
import Derived.ProofKit
import Derived.OpenShut
import Derived.ShutString
import Derived.ChangeOld
import Derived.Below
import Derived.SizedLaws
import Derived.Test.YtnihhidbiepnhaaOpens
import Derived.Test.YtnihhidbiepnhaaJn
import Derived.Test.YtnihhidbiepnhaaPRouteExamples
namespace Go.Proofs.Ytnihhidbiepnhaa.routeExamples
open Go.ChangeShapes Go.WideShapes Go.ChangeAt Go.RowKit Go.Dc
open Go.ChangeMaps (open_string shut_string)
set_option linter.unusedVariables false
theorem own : ownKnob Try.prog.godebug = none := by kernel_rfl
theorem laidOut : laidOutB Try.prog = true := laid_prog
set_option maxRecDepth 100000 in
theorem lifted (os : Os) (started : os.Started) (H : Type) (enc : TypeId × Value → H) :
    ReturnsInHanded {} Try.checked os 9 .any (Rows.routeExamplesSpec.pre6 enc Try.prog Try.f9 Rows.routeExamplesRow.domain false) (Rows.routeExamplesSpec.post enc Try.prog Try.f9 false true false false) := by
  refine returnsInHanded_of_change_sized (C := Try.checked) own started (by kernel_rfl) Try.func9
    (ChangeSpec.witness6 (enc := enc) (C := Try.checked) false ⟨#[], #[], []⟩ 8 (by kernel_rfl) (by kernel_rfl) (by kernel_rfl) (by kernel_rfl)) ?_
  intro W base args ds gs before hval0 hW hcnd hsz _
  have hval : ∀ (j : Nat) t v, Try.f9.params[j]? = some t → args[j]? = some v → Value.okWide Try.prog W .any base t v := hval0
  have hW' := hW
  obtain ⟨p, q, hA0, hV, rfl, hfz, hnd⟩ := hW
  have hA : DataW.TrodAll enc Try.prog W 0 (fun _ => true) true Try.f9.params.toList args.toList ds p := hA0
  rw [Try.params9] at hA hval
  obtain ⟨hargs, rfl, rfl⟩ := trodAll_nil hA
  obtain rfl : args = #[] := by cases args; simp_all
  obtain ⟨rfl, rfl⟩ := trodVars_none hV
  clear hsz
  clear hA0 hval0
  refine (law7_RouteExamples_spec (fun k => k < W.heap.size) W  true (routeExamples_plain  ) (fun _ h => h) ).mono fun e W' ⟨he, bel⟩ => ?_
  subst he
  exact ⟨_, rfl, _, _, _, [], _, [], hW', trodAll_mk1 (shut_bool Try.underlying4 _), trodAll_mk0, rfl, bel.frame _, fun h => by cases h⟩

theorem joined : joinedFacts Try.prog 9 Try.f9 Rows.routeExamplesSpec Rows.routeExamplesRow = true := by
  unfold joinedFacts
  rw [mayEnter_prog, lifts_prog, laid_prog]
  kernel_rfl
theorem over : Rows.routeExamplesRow.holds Try.pinned (OpenSpec.ofChange Rows.routeExamplesSpec) :=
  OpenClaim.holds_of_wide 9 Try.f9 rfl rfl rfl rfl rfl rfl rfl ⟨rfl, rfl, rfl, rfl, rfl⟩ rfl rfl rfl rfl rfl (by kernel_rfl) Try.func9 joined
    (of_decide_eq_true (by kernel_rfl)) (by unfold Func.isWrapper; first | (rw [if_pos (by decide +kernel)]; kernel_rfl) | (rw [if_neg (by decide +kernel)]; exact ⟨rfl, rfl⟩))
    (fun os started H enc _ => lifted os started H enc)
end Go.Proofs.Ytnihhidbiepnhaa.routeExamples
namespace Go.Proofs.Ytnihhidbiepnhaa
theorem routeExamples_holds : Rows.RouteExamplesSaid := routeExamples.over
#print axioms routeExamples_holds
end Go.Proofs.Ytnihhidbiepnhaa

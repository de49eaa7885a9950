/-
  No cell of these rows narrows 'for every input' (looked for: loops, veiled, ifaces, maps, wideKeys, modest, calm, conditions, laid).
  DERIVED. THE GIVEN ROWS OF THIS SEAT. 14 by the template 'for every input the law returns true; each argument reads behind the call as it read before'; 0 by the template 'total and deterministic' (their statements: YtnihhidbiepnhaaTotals.lean).
  GIVEN WITH THE SEED: the statements are not yours to turn. If you find one false, say at which input.
  Laid BY PROGRAM, IN A SANDBOX (cutbox-rows.mjs): the forced cells as the released guide's own fill.sh prints them over the translation 1847aed5b597caac… (all of the seat's roots in one cut). By AI agents, Wed Nov 11 2026. No macro, syntax, notation, axiom, sorry.
-/
import Derived.Test.YtnihhidbiepnhaaChecked
import GoSem.Claim
import GoSem.ClaimJoined
import GoSem.ClaimMapViews
import Derived.JoinedTies
import Derived.KernelRfl
namespace Go.Proofs.Ytnihhidbiepnhaa
/- THE CELL 'sum', in the pinned program and in every row, IS THE sha256 OF THE DUMP (.gsa) THAT YtnihhidbiepnhaaProg.lean LOADS. Nothing in Lean hashes anything: it is a label: what it is worth is what the hold of that sum in a sandbox is worth. -/
noncomputable def Try.pinned : Pinned := { name := "ytnihhidbiepnhaa", sum := "1847aed5b597caac80d2c4ab4c8bb3c96cf13fce884343a7e4e96004319b7c30", checked := Try.checked }
namespace Rows
def none {H : Type} : Left H := { results := [], args := [] }

/-- 'railplanlaw4.LayoutLimits': WHATEVER THE INPUT: true; the input reads as it did. -/
def layoutLimitsSpec : ChangeSpec := { name := "layoutLimits", fn := fun _ => fun
  | [d1, d2] => { results := [.lit (.bool true)], args := [d1, d2] }
  | _ => none }
def layoutLimitsRow : OpenClaim := { program := "ytnihhidbiepnhaa", sum := "1847aed5b597caac80d2c4ab4c8bb3c96cf13fce884343a7e4e96004319b7c30", func := "railplan/railplanlaw4.LayoutLimits", spec := "layoutLimits", plainKeys := false, apart := false }
def LayoutLimitsSaid : Prop := layoutLimitsRow.holds Try.pinned (OpenSpec.ofChange layoutLimitsSpec)

/-- ITS FALSE NEIGHBOUR: 'it returns false'. Refute it at one input. -/
def layoutLimitsWrong : ChangeSpec := { name := "layoutLimits", fn := fun _ => fun
  | [d1, d2] => { results := [.lit (.bool false)], args := [d1, d2] }
  | _ => none }
def LayoutLimitsWrongFalsely : Prop := layoutLimitsRow.holds Try.pinned (OpenSpec.ofChange layoutLimitsWrong)

/-- 'railplanlaw4.LayoutHopsDiffer': WHATEVER THE INPUT: true; the input reads as it did. -/
def layoutHopsDifferSpec : ChangeSpec := { name := "layoutHopsDiffer", fn := fun _ => fun
  | [d1, d2] => { results := [.lit (.bool true)], args := [d1, d2] }
  | _ => none }
def layoutHopsDifferRow : OpenClaim := { program := "ytnihhidbiepnhaa", sum := "1847aed5b597caac80d2c4ab4c8bb3c96cf13fce884343a7e4e96004319b7c30", func := "railplan/railplanlaw4.LayoutHopsDiffer", spec := "layoutHopsDiffer", plainKeys := false, apart := false }
def LayoutHopsDifferSaid : Prop := layoutHopsDifferRow.holds Try.pinned (OpenSpec.ofChange layoutHopsDifferSpec)

/-- ITS FALSE NEIGHBOUR: 'it returns false'. Refute it at one input. -/
def layoutHopsDifferWrong : ChangeSpec := { name := "layoutHopsDiffer", fn := fun _ => fun
  | [d1, d2] => { results := [.lit (.bool false)], args := [d1, d2] }
  | _ => none }
def LayoutHopsDifferWrongFalsely : Prop := layoutHopsDifferRow.holds Try.pinned (OpenSpec.ofChange layoutHopsDifferWrong)

/-- 'railplanlaw4.LayoutHopsReverse': WHATEVER THE INPUT: true; the input reads as it did. -/
def layoutHopsReverseSpec : ChangeSpec := { name := "layoutHopsReverse", fn := fun _ => fun
  | [d1, d2] => { results := [.lit (.bool true)], args := [d1, d2] }
  | _ => none }
def layoutHopsReverseRow : OpenClaim := { program := "ytnihhidbiepnhaa", sum := "1847aed5b597caac80d2c4ab4c8bb3c96cf13fce884343a7e4e96004319b7c30", func := "railplan/railplanlaw4.LayoutHopsReverse", spec := "layoutHopsReverse", plainKeys := false, apart := false }
def LayoutHopsReverseSaid : Prop := layoutHopsReverseRow.holds Try.pinned (OpenSpec.ofChange layoutHopsReverseSpec)

/-- ITS FALSE NEIGHBOUR: 'it returns false'. Refute it at one input. -/
def layoutHopsReverseWrong : ChangeSpec := { name := "layoutHopsReverse", fn := fun _ => fun
  | [d1, d2] => { results := [.lit (.bool false)], args := [d1, d2] }
  | _ => none }
def LayoutHopsReverseWrongFalsely : Prop := layoutHopsReverseRow.holds Try.pinned (OpenSpec.ofChange layoutHopsReverseWrong)

/-- 'railplanlaw7.RouteLimits': WHATEVER THE INPUT: true; the input reads as it did. -/
def routeLimitsSpec : ChangeSpec := { name := "routeLimits", fn := fun _ => fun
  | [d1, d2, d3] => { results := [.lit (.bool true)], args := [d1, d2, d3] }
  | _ => none }
def routeLimitsRow : OpenClaim := { program := "ytnihhidbiepnhaa", sum := "1847aed5b597caac80d2c4ab4c8bb3c96cf13fce884343a7e4e96004319b7c30", func := "railplan/railplanlaw7.RouteLimits", spec := "routeLimits", plainKeys := false, apart := false }
def RouteLimitsSaid : Prop := routeLimitsRow.holds Try.pinned (OpenSpec.ofChange routeLimitsSpec)

/-- ITS FALSE NEIGHBOUR: 'it returns false'. Refute it at one input. -/
def routeLimitsWrong : ChangeSpec := { name := "routeLimits", fn := fun _ => fun
  | [d1, d2, d3] => { results := [.lit (.bool false)], args := [d1, d2, d3] }
  | _ => none }
def RouteLimitsWrongFalsely : Prop := routeLimitsRow.holds Try.pinned (OpenSpec.ofChange routeLimitsWrong)

/-- 'railplanlaw7.RouteCellsAdd': WHATEVER THE INPUT: true; the input reads as it did. -/
def routeCellsAddSpec : ChangeSpec := { name := "routeCellsAdd", fn := fun _ => fun
  | [d1, d2] => { results := [.lit (.bool true)], args := [d1, d2] }
  | _ => none }
def routeCellsAddRow : OpenClaim := { program := "ytnihhidbiepnhaa", sum := "1847aed5b597caac80d2c4ab4c8bb3c96cf13fce884343a7e4e96004319b7c30", func := "railplan/railplanlaw7.RouteCellsAdd", spec := "routeCellsAdd", plainKeys := false, apart := false }
def RouteCellsAddSaid : Prop := routeCellsAddRow.holds Try.pinned (OpenSpec.ofChange routeCellsAddSpec)

/-- ITS FALSE NEIGHBOUR: 'it returns false'. Refute it at one input. -/
def routeCellsAddWrong : ChangeSpec := { name := "routeCellsAdd", fn := fun _ => fun
  | [d1, d2] => { results := [.lit (.bool false)], args := [d1, d2] }
  | _ => none }
def RouteCellsAddWrongFalsely : Prop := routeCellsAddRow.holds Try.pinned (OpenSpec.ofChange routeCellsAddWrong)

/-- 'railplanlaw7.RouteReverses': WHATEVER THE INPUT: true; the input reads as it did. -/
def routeReversesSpec : ChangeSpec := { name := "routeReverses", fn := fun _ => fun
  | [d1, d2] => { results := [.lit (.bool true)], args := [d1, d2] }
  | _ => none }
def routeReversesRow : OpenClaim := { program := "ytnihhidbiepnhaa", sum := "1847aed5b597caac80d2c4ab4c8bb3c96cf13fce884343a7e4e96004319b7c30", func := "railplan/railplanlaw7.RouteReverses", spec := "routeReverses", plainKeys := false, apart := false }
def RouteReversesSaid : Prop := routeReversesRow.holds Try.pinned (OpenSpec.ofChange routeReversesSpec)

/-- ITS FALSE NEIGHBOUR: 'it returns false'. Refute it at one input. -/
def routeReversesWrong : ChangeSpec := { name := "routeReverses", fn := fun _ => fun
  | [d1, d2] => { results := [.lit (.bool false)], args := [d1, d2] }
  | _ => none }
def RouteReversesWrongFalsely : Prop := routeReversesRow.holds Try.pinned (OpenSpec.ofChange routeReversesWrong)

/-- 'railplanlaw7.RouteExamples': WHATEVER THE INPUT: true; the input reads as it did. -/
def routeExamplesSpec : ChangeSpec := { name := "routeExamples", fn := fun _ => fun
  | [] => { results := [.lit (.bool true)], args := [] }
  | _ => none }
def routeExamplesRow : OpenClaim := { program := "ytnihhidbiepnhaa", sum := "1847aed5b597caac80d2c4ab4c8bb3c96cf13fce884343a7e4e96004319b7c30", func := "railplan/railplanlaw7.RouteExamples", spec := "routeExamples", recurses := true, plainKeys := false, apart := false }
def RouteExamplesSaid : Prop := routeExamplesRow.holds Try.pinned (OpenSpec.ofChange routeExamplesSpec)

/-- ITS FALSE NEIGHBOUR: 'it returns false'. Refute it at one input. -/
def routeExamplesWrong : ChangeSpec := { name := "routeExamples", fn := fun _ => fun
  | [] => { results := [.lit (.bool false)], args := [] }
  | _ => none }
def RouteExamplesWrongFalsely : Prop := routeExamplesRow.holds Try.pinned (OpenSpec.ofChange routeExamplesWrong)

/-- 'railplanlaw7.RouteRaw': WHATEVER THE INPUT: true; the input reads as it did. -/
def routeRawSpec : ChangeSpec := { name := "routeRaw", fn := fun _ => fun
  | [d1, d2, d3] => { results := [.lit (.bool true)], args := [d1, d2, d3] }
  | _ => none }
def routeRawRow : OpenClaim := { program := "ytnihhidbiepnhaa", sum := "1847aed5b597caac80d2c4ab4c8bb3c96cf13fce884343a7e4e96004319b7c30", func := "railplan/railplanlaw7.RouteRaw", spec := "routeRaw", unfollowed := true, recurses := true, plainKeys := false, apart := false }
def RouteRawSaid : Prop := routeRawRow.holds Try.pinned (OpenSpec.ofChange routeRawSpec)

/-- ITS FALSE NEIGHBOUR: 'it returns false'. Refute it at one input. -/
def routeRawWrong : ChangeSpec := { name := "routeRaw", fn := fun _ => fun
  | [d1, d2, d3] => { results := [.lit (.bool false)], args := [d1, d2, d3] }
  | _ => none }
def RouteRawWrongFalsely : Prop := routeRawRow.holds Try.pinned (OpenSpec.ofChange routeRawWrong)

/-- 'railplanlaw7.RouteGenerated': WHATEVER THE INPUT: true; the input reads as it did. -/
def routeGeneratedSpec : ChangeSpec := { name := "routeGenerated", fn := fun _ => fun
  | [d1, d2, d3, d4, d5] => { results := [.lit (.bool true)], args := [d1, d2, d3, d4, d5] }
  | _ => none }
def routeGeneratedRow : OpenClaim := { program := "ytnihhidbiepnhaa", sum := "1847aed5b597caac80d2c4ab4c8bb3c96cf13fce884343a7e4e96004319b7c30", func := "railplan/railplanlaw7.RouteGenerated", spec := "routeGenerated", unfollowed := true, recurses := true, plainKeys := false, apart := false }
def RouteGeneratedSaid : Prop := routeGeneratedRow.holds Try.pinned (OpenSpec.ofChange routeGeneratedSpec)

/-- ITS FALSE NEIGHBOUR: 'it returns false'. Refute it at one input. -/
def routeGeneratedWrong : ChangeSpec := { name := "routeGenerated", fn := fun _ => fun
  | [d1, d2, d3, d4, d5] => { results := [.lit (.bool false)], args := [d1, d2, d3, d4, d5] }
  | _ => none }
def RouteGeneratedWrongFalsely : Prop := routeGeneratedRow.holds Try.pinned (OpenSpec.ofChange routeGeneratedWrong)

/-- 'railplanlaw7.RouteClashIsCommonResource': WHATEVER THE INPUT: true; the input reads as it did. -/
def routeClashIsCommonResourceSpec : ChangeSpec := { name := "routeClashIsCommonResource", fn := fun _ => fun
  | [d1, d2, d3] => { results := [.lit (.bool true)], args := [d1, d2, d3] }
  | _ => none }
def routeClashIsCommonResourceRow : OpenClaim := { program := "ytnihhidbiepnhaa", sum := "1847aed5b597caac80d2c4ab4c8bb3c96cf13fce884343a7e4e96004319b7c30", func := "railplan/railplanlaw7.RouteClashIsCommonResource", spec := "routeClashIsCommonResource", unfollowed := true, recurses := true, plainKeys := false, apart := false }
def RouteClashIsCommonResourceSaid : Prop := routeClashIsCommonResourceRow.holds Try.pinned (OpenSpec.ofChange routeClashIsCommonResourceSpec)

/-- ITS FALSE NEIGHBOUR: 'it returns false'. Refute it at one input. -/
def routeClashIsCommonResourceWrong : ChangeSpec := { name := "routeClashIsCommonResource", fn := fun _ => fun
  | [d1, d2, d3] => { results := [.lit (.bool false)], args := [d1, d2, d3] }
  | _ => none }
def RouteClashIsCommonResourceWrongFalsely : Prop := routeClashIsCommonResourceRow.holds Try.pinned (OpenSpec.ofChange routeClashIsCommonResourceWrong)

/-- 'railplanlaw7.RouteFinds': WHATEVER THE INPUT: true; the input reads as it did. -/
def routeFindsSpec : ChangeSpec := { name := "routeFinds", fn := fun _ => fun
  | [d1, d2, d3, d4, d5] => { results := [.lit (.bool true)], args := [d1, d2, d3, d4, d5] }
  | _ => none }
def routeFindsRow : OpenClaim := { program := "ytnihhidbiepnhaa", sum := "1847aed5b597caac80d2c4ab4c8bb3c96cf13fce884343a7e4e96004319b7c30", func := "railplan/railplanlaw7.RouteFinds", spec := "routeFinds", recurses := true, plainKeys := false, apart := false }
def RouteFindsSaid : Prop := routeFindsRow.holds Try.pinned (OpenSpec.ofChange routeFindsSpec)

/-- ITS FALSE NEIGHBOUR: 'it returns false'. Refute it at one input. -/
def routeFindsWrong : ChangeSpec := { name := "routeFinds", fn := fun _ => fun
  | [d1, d2, d3, d4, d5] => { results := [.lit (.bool false)], args := [d1, d2, d3, d4, d5] }
  | _ => none }
def RouteFindsWrongFalsely : Prop := routeFindsRow.holds Try.pinned (OpenSpec.ofChange routeFindsWrong)

/-- 'railplanlaw7.RouteFoundAreValid': WHATEVER THE INPUT: true; the input reads as it did. -/
def routeFoundAreValidSpec : ChangeSpec := { name := "routeFoundAreValid", fn := fun _ => fun
  | [d1, d2, d3] => { results := [.lit (.bool true)], args := [d1, d2, d3] }
  | _ => none }
def routeFoundAreValidRow : OpenClaim := { program := "ytnihhidbiepnhaa", sum := "1847aed5b597caac80d2c4ab4c8bb3c96cf13fce884343a7e4e96004319b7c30", func := "railplan/railplanlaw7.RouteFoundAreValid", spec := "routeFoundAreValid", recurses := true, plainKeys := false, apart := false }
def RouteFoundAreValidSaid : Prop := routeFoundAreValidRow.holds Try.pinned (OpenSpec.ofChange routeFoundAreValidSpec)

/-- ITS FALSE NEIGHBOUR: 'it returns false'. Refute it at one input. -/
def routeFoundAreValidWrong : ChangeSpec := { name := "routeFoundAreValid", fn := fun _ => fun
  | [d1, d2, d3] => { results := [.lit (.bool false)], args := [d1, d2, d3] }
  | _ => none }
def RouteFoundAreValidWrongFalsely : Prop := routeFoundAreValidRow.holds Try.pinned (OpenSpec.ofChange routeFoundAreValidWrong)

/-- 'railplanlaw7.RouteFindIsComplete': WHATEVER THE INPUT: true; the input reads as it did. -/
def routeFindIsCompleteSpec : ChangeSpec := { name := "routeFindIsComplete", fn := fun _ => fun
  | [d1, d2] => { results := [.lit (.bool true)], args := [d1, d2] }
  | _ => none }
def routeFindIsCompleteRow : OpenClaim := { program := "ytnihhidbiepnhaa", sum := "1847aed5b597caac80d2c4ab4c8bb3c96cf13fce884343a7e4e96004319b7c30", func := "railplan/railplanlaw7.RouteFindIsComplete", spec := "routeFindIsComplete", recurses := true, plainKeys := false, apart := false }
def RouteFindIsCompleteSaid : Prop := routeFindIsCompleteRow.holds Try.pinned (OpenSpec.ofChange routeFindIsCompleteSpec)

/-- ITS FALSE NEIGHBOUR: 'it returns false'. Refute it at one input. -/
def routeFindIsCompleteWrong : ChangeSpec := { name := "routeFindIsComplete", fn := fun _ => fun
  | [d1, d2] => { results := [.lit (.bool false)], args := [d1, d2] }
  | _ => none }
def RouteFindIsCompleteWrongFalsely : Prop := routeFindIsCompleteRow.holds Try.pinned (OpenSpec.ofChange routeFindIsCompleteWrong)

/-- 'railplanlaw7.RouteBudget': WHATEVER THE INPUT: true; the input reads as it did. -/
def routeBudgetSpec : ChangeSpec := { name := "routeBudget", fn := fun _ => fun
  | [d1, d2, d3] => { results := [.lit (.bool true)], args := [d1, d2, d3] }
  | _ => none }
def routeBudgetRow : OpenClaim := { program := "ytnihhidbiepnhaa", sum := "1847aed5b597caac80d2c4ab4c8bb3c96cf13fce884343a7e4e96004319b7c30", func := "railplan/railplanlaw7.RouteBudget", spec := "routeBudget", recurses := true, plainKeys := false, apart := false }
def RouteBudgetSaid : Prop := routeBudgetRow.holds Try.pinned (OpenSpec.ofChange routeBudgetSpec)

/-- ITS FALSE NEIGHBOUR: 'it returns false'. Refute it at one input. -/
def routeBudgetWrong : ChangeSpec := { name := "routeBudget", fn := fun _ => fun
  | [d1, d2, d3] => { results := [.lit (.bool false)], args := [d1, d2, d3] }
  | _ => none }
def RouteBudgetWrongFalsely : Prop := routeBudgetRow.holds Try.pinned (OpenSpec.ofChange routeBudgetWrong)

/- THE SECOND FORM. 'bulk': how many values and letters a reading holds, each counted each time it is reached (what is shared counts as often as it is met; a slice's spare places count too). A statement '..UptoSaid' is the law's where the arguments, and the package variables that the reading takes, are together of bulk at most 1048576: NARROWER than '..Said'. Prove '..Said' where nothing that the law and all that it calls make is longer than what came in: it says more and counts as full. Else prove '..UptoSaid'. A law counts once. -/
mutual
def uptoBulk {H : Type} : DataW H → Nat
  | .lit (.string bytes) => bytes.length + 1
  | .lit _ => 1
  | .nil => 1
  | .ptr d => uptoBulk d + 1
  | .slice elems spare => uptoBulkAll elems + uptoBulkAll spare + 1
  | .agg parts => uptoBulkAll parts + 1
  | .iface _ d => uptoBulk d + 1
  | .map entries => uptoBulkEntries entries + 1
  | .held _ => 1
def uptoBulkAll {H : Type} : List (DataW H) → Nat
  | [] => 0
  | d :: r => uptoBulk d + uptoBulkAll r
def uptoBulkEntries {H : Type} : List (Lit × DataW H) → Nat
  | [] => 0
  | x :: r => uptoBulkEntry x + uptoBulkEntries r
def uptoBulkEntry {H : Type} : Lit × DataW H → Nat
  | (.string bytes, d) => bytes.length + uptoBulk d + 1
  | (_, d) => uptoBulk d + 1
 end
def uptoSmall : (H : Type) → List (DataW H) → Bool := fun _ ds => decide (uptoBulkAll ds ≤ 1048576)
def OpenSpec.upto (s : _root_.Go.ChangeSpec) : _root_.Go.OpenSpec := { _root_.Go.OpenSpec.ofChange s with cond := some uptoSmall }

/-- 'railplanlaw4.LayoutLimits', WHERE WHAT IT READS IS OF BULK AT MOST 1048576: true; the input reads as it did. -/
def layoutLimitsUptoRow : OpenClaim := { program := "ytnihhidbiepnhaa", sum := "1847aed5b597caac80d2c4ab4c8bb3c96cf13fce884343a7e4e96004319b7c30", func := "railplan/railplanlaw4.LayoutLimits", spec := "layoutLimits", plainKeys := false, apart := false, narrowed := true }
def LayoutLimitsUptoSaid : Prop := layoutLimitsUptoRow.holds Try.pinned (OpenSpec.upto layoutLimitsSpec)

/-- 'railplanlaw4.LayoutHopsDiffer', WHERE WHAT IT READS IS OF BULK AT MOST 1048576: true; the input reads as it did. -/
def layoutHopsDifferUptoRow : OpenClaim := { program := "ytnihhidbiepnhaa", sum := "1847aed5b597caac80d2c4ab4c8bb3c96cf13fce884343a7e4e96004319b7c30", func := "railplan/railplanlaw4.LayoutHopsDiffer", spec := "layoutHopsDiffer", plainKeys := false, apart := false, narrowed := true }
def LayoutHopsDifferUptoSaid : Prop := layoutHopsDifferUptoRow.holds Try.pinned (OpenSpec.upto layoutHopsDifferSpec)

/-- 'railplanlaw4.LayoutHopsReverse', WHERE WHAT IT READS IS OF BULK AT MOST 1048576: true; the input reads as it did. -/
def layoutHopsReverseUptoRow : OpenClaim := { program := "ytnihhidbiepnhaa", sum := "1847aed5b597caac80d2c4ab4c8bb3c96cf13fce884343a7e4e96004319b7c30", func := "railplan/railplanlaw4.LayoutHopsReverse", spec := "layoutHopsReverse", plainKeys := false, apart := false, narrowed := true }
def LayoutHopsReverseUptoSaid : Prop := layoutHopsReverseUptoRow.holds Try.pinned (OpenSpec.upto layoutHopsReverseSpec)

/-- 'railplanlaw7.RouteLimits', WHERE WHAT IT READS IS OF BULK AT MOST 1048576: true; the input reads as it did. -/
def routeLimitsUptoRow : OpenClaim := { program := "ytnihhidbiepnhaa", sum := "1847aed5b597caac80d2c4ab4c8bb3c96cf13fce884343a7e4e96004319b7c30", func := "railplan/railplanlaw7.RouteLimits", spec := "routeLimits", plainKeys := false, apart := false, narrowed := true }
def RouteLimitsUptoSaid : Prop := routeLimitsUptoRow.holds Try.pinned (OpenSpec.upto routeLimitsSpec)

/-- 'railplanlaw7.RouteCellsAdd', WHERE WHAT IT READS IS OF BULK AT MOST 1048576: true; the input reads as it did. -/
def routeCellsAddUptoRow : OpenClaim := { program := "ytnihhidbiepnhaa", sum := "1847aed5b597caac80d2c4ab4c8bb3c96cf13fce884343a7e4e96004319b7c30", func := "railplan/railplanlaw7.RouteCellsAdd", spec := "routeCellsAdd", plainKeys := false, apart := false, narrowed := true }
def RouteCellsAddUptoSaid : Prop := routeCellsAddUptoRow.holds Try.pinned (OpenSpec.upto routeCellsAddSpec)

/-- 'railplanlaw7.RouteReverses', WHERE WHAT IT READS IS OF BULK AT MOST 1048576: true; the input reads as it did. -/
def routeReversesUptoRow : OpenClaim := { program := "ytnihhidbiepnhaa", sum := "1847aed5b597caac80d2c4ab4c8bb3c96cf13fce884343a7e4e96004319b7c30", func := "railplan/railplanlaw7.RouteReverses", spec := "routeReverses", plainKeys := false, apart := false, narrowed := true }
def RouteReversesUptoSaid : Prop := routeReversesUptoRow.holds Try.pinned (OpenSpec.upto routeReversesSpec)

/-- 'railplanlaw7.RouteExamples', WHERE WHAT IT READS IS OF BULK AT MOST 1048576: true; the input reads as it did. -/
def routeExamplesUptoRow : OpenClaim := { program := "ytnihhidbiepnhaa", sum := "1847aed5b597caac80d2c4ab4c8bb3c96cf13fce884343a7e4e96004319b7c30", func := "railplan/railplanlaw7.RouteExamples", spec := "routeExamples", recurses := true, plainKeys := false, apart := false, narrowed := true }
def RouteExamplesUptoSaid : Prop := routeExamplesUptoRow.holds Try.pinned (OpenSpec.upto routeExamplesSpec)

/-- 'railplanlaw7.RouteRaw', WHERE WHAT IT READS IS OF BULK AT MOST 1048576: true; the input reads as it did. -/
def routeRawUptoRow : OpenClaim := { program := "ytnihhidbiepnhaa", sum := "1847aed5b597caac80d2c4ab4c8bb3c96cf13fce884343a7e4e96004319b7c30", func := "railplan/railplanlaw7.RouteRaw", spec := "routeRaw", unfollowed := true, recurses := true, plainKeys := false, apart := false, narrowed := true }
def RouteRawUptoSaid : Prop := routeRawUptoRow.holds Try.pinned (OpenSpec.upto routeRawSpec)

/-- 'railplanlaw7.RouteGenerated', WHERE WHAT IT READS IS OF BULK AT MOST 1048576: true; the input reads as it did. -/
def routeGeneratedUptoRow : OpenClaim := { program := "ytnihhidbiepnhaa", sum := "1847aed5b597caac80d2c4ab4c8bb3c96cf13fce884343a7e4e96004319b7c30", func := "railplan/railplanlaw7.RouteGenerated", spec := "routeGenerated", unfollowed := true, recurses := true, plainKeys := false, apart := false, narrowed := true }
def RouteGeneratedUptoSaid : Prop := routeGeneratedUptoRow.holds Try.pinned (OpenSpec.upto routeGeneratedSpec)

/-- 'railplanlaw7.RouteClashIsCommonResource', WHERE WHAT IT READS IS OF BULK AT MOST 1048576: true; the input reads as it did. -/
def routeClashIsCommonResourceUptoRow : OpenClaim := { program := "ytnihhidbiepnhaa", sum := "1847aed5b597caac80d2c4ab4c8bb3c96cf13fce884343a7e4e96004319b7c30", func := "railplan/railplanlaw7.RouteClashIsCommonResource", spec := "routeClashIsCommonResource", unfollowed := true, recurses := true, plainKeys := false, apart := false, narrowed := true }
def RouteClashIsCommonResourceUptoSaid : Prop := routeClashIsCommonResourceUptoRow.holds Try.pinned (OpenSpec.upto routeClashIsCommonResourceSpec)

/-- 'railplanlaw7.RouteFinds', WHERE WHAT IT READS IS OF BULK AT MOST 1048576: true; the input reads as it did. -/
def routeFindsUptoRow : OpenClaim := { program := "ytnihhidbiepnhaa", sum := "1847aed5b597caac80d2c4ab4c8bb3c96cf13fce884343a7e4e96004319b7c30", func := "railplan/railplanlaw7.RouteFinds", spec := "routeFinds", recurses := true, plainKeys := false, apart := false, narrowed := true }
def RouteFindsUptoSaid : Prop := routeFindsUptoRow.holds Try.pinned (OpenSpec.upto routeFindsSpec)

/-- 'railplanlaw7.RouteFoundAreValid', WHERE WHAT IT READS IS OF BULK AT MOST 1048576: true; the input reads as it did. -/
def routeFoundAreValidUptoRow : OpenClaim := { program := "ytnihhidbiepnhaa", sum := "1847aed5b597caac80d2c4ab4c8bb3c96cf13fce884343a7e4e96004319b7c30", func := "railplan/railplanlaw7.RouteFoundAreValid", spec := "routeFoundAreValid", recurses := true, plainKeys := false, apart := false, narrowed := true }
def RouteFoundAreValidUptoSaid : Prop := routeFoundAreValidUptoRow.holds Try.pinned (OpenSpec.upto routeFoundAreValidSpec)

/-- 'railplanlaw7.RouteFindIsComplete', WHERE WHAT IT READS IS OF BULK AT MOST 1048576: true; the input reads as it did. -/
def routeFindIsCompleteUptoRow : OpenClaim := { program := "ytnihhidbiepnhaa", sum := "1847aed5b597caac80d2c4ab4c8bb3c96cf13fce884343a7e4e96004319b7c30", func := "railplan/railplanlaw7.RouteFindIsComplete", spec := "routeFindIsComplete", recurses := true, plainKeys := false, apart := false, narrowed := true }
def RouteFindIsCompleteUptoSaid : Prop := routeFindIsCompleteUptoRow.holds Try.pinned (OpenSpec.upto routeFindIsCompleteSpec)

/-- 'railplanlaw7.RouteBudget', WHERE WHAT IT READS IS OF BULK AT MOST 1048576: true; the input reads as it did. -/
def routeBudgetUptoRow : OpenClaim := { program := "ytnihhidbiepnhaa", sum := "1847aed5b597caac80d2c4ab4c8bb3c96cf13fce884343a7e4e96004319b7c30", func := "railplan/railplanlaw7.RouteBudget", spec := "routeBudget", recurses := true, plainKeys := false, apart := false, narrowed := true }
def RouteBudgetUptoSaid : Prop := routeBudgetUptoRow.holds Try.pinned (OpenSpec.upto routeBudgetSpec)

end Rows
end Go.Proofs.Ytnihhidbiepnhaa

/-
  No cell of these rows narrows 'for every input' (looked for: loops, veiled, ifaces, maps, wideKeys, modest, calm, conditions, laid).
  DERIVED. THE GIVEN ROWS OF THIS SEAT. 17 by the template 'for every input the law returns true; each argument reads behind the call as it read before'; 0 by the template 'total and deterministic' (their statements: YtedocibniankjaaTotals.lean).
  GIVEN WITH THE SEED: the statements are not yours to turn. If you find one false, say at which input.
  Laid BY PROGRAM, IN A SANDBOX (cutbox-rows.mjs): the forced cells as the released guide's own fill.sh prints them over the translation afb6ec3a73316e3a… (all of the seat's roots in one cut). By AI agents, Wed Nov 11 2026. No macro, syntax, notation, axiom, sorry.
-/
import Derived.Test.YtedocibniankjaaChecked
import GoSem.Claim
import GoSem.ClaimJoined
import GoSem.ClaimMapViews
import Derived.JoinedTies
import Derived.KernelRfl
namespace Go.Proofs.Ytedocibniankjaa
/- THE CELL 'sum', in the pinned program and in every row, IS THE sha256 OF THE DUMP (.gsa) THAT YtedocibniankjaaProg.lean LOADS. Nothing in Lean hashes anything: it is a label: what it is worth is what the hold of that sum in a sandbox is worth. -/
noncomputable def Try.pinned : Pinned := { name := "ytedocibniankjaa", sum := "afb6ec3a73316e3ae8c26b83539beaf9b682a6b847d493e7d3f60d187451fe27", checked := Try.checked }
namespace Rows
def none {H : Type} : Left H := { results := [], args := [] }

/-- 'railplanlaw27.FlowLeast': WHATEVER THE INPUT: true; the input reads as it did. -/
def flowLeastSpec : ChangeSpec := { name := "flowLeast", fn := fun _ => fun
  | [d] => { results := [.lit (.bool true)], args := [d] }
  | _ => none }
def flowLeastRow : OpenClaim := { program := "ytedocibniankjaa", sum := "afb6ec3a73316e3ae8c26b83539beaf9b682a6b847d493e7d3f60d187451fe27", func := "railplan/railplanlaw27.FlowLeast", spec := "flowLeast", apart := false }
def FlowLeastSaid : Prop := flowLeastRow.holds Try.pinned (OpenSpec.ofChange flowLeastSpec)

/-- ITS FALSE NEIGHBOUR: 'it returns false'. Refute it at one input. -/
def flowLeastWrong : ChangeSpec := { name := "flowLeast", fn := fun _ => fun
  | [d] => { results := [.lit (.bool false)], args := [d] }
  | _ => none }
def FlowLeastWrongFalsely : Prop := flowLeastRow.holds Try.pinned (OpenSpec.ofChange flowLeastWrong)

/-- 'railplanlaw27.FlowVerify': WHATEVER THE INPUT: true; the input reads as it did. -/
def flowVerifySpec : ChangeSpec := { name := "flowVerify", fn := fun _ => fun
  | [d1, d2, d3, d4] => { results := [.lit (.bool true)], args := [d1, d2, d3, d4] }
  | _ => none }
def flowVerifyRow : OpenClaim := { program := "ytedocibniankjaa", sum := "afb6ec3a73316e3ae8c26b83539beaf9b682a6b847d493e7d3f60d187451fe27", func := "railplan/railplanlaw27.FlowVerify", spec := "flowVerify", apart := false }
def FlowVerifySaid : Prop := flowVerifyRow.holds Try.pinned (OpenSpec.ofChange flowVerifySpec)

/-- ITS FALSE NEIGHBOUR: 'it returns false'. Refute it at one input. -/
def flowVerifyWrong : ChangeSpec := { name := "flowVerify", fn := fun _ => fun
  | [d1, d2, d3, d4] => { results := [.lit (.bool false)], args := [d1, d2, d3, d4] }
  | _ => none }
def FlowVerifyWrongFalsely : Prop := flowVerifyRow.holds Try.pinned (OpenSpec.ofChange flowVerifyWrong)

/-- 'railplanlaw27.FlowScale': WHATEVER THE INPUT: true; the input reads as it did. -/
def flowScaleSpec : ChangeSpec := { name := "flowScale", fn := fun _ => fun
  | [d1, d2] => { results := [.lit (.bool true)], args := [d1, d2] }
  | _ => none }
def flowScaleRow : OpenClaim := { program := "ytedocibniankjaa", sum := "afb6ec3a73316e3ae8c26b83539beaf9b682a6b847d493e7d3f60d187451fe27", func := "railplan/railplanlaw27.FlowScale", spec := "flowScale", apart := false }
def FlowScaleSaid : Prop := flowScaleRow.holds Try.pinned (OpenSpec.ofChange flowScaleSpec)

/-- ITS FALSE NEIGHBOUR: 'it returns false'. Refute it at one input. -/
def flowScaleWrong : ChangeSpec := { name := "flowScale", fn := fun _ => fun
  | [d1, d2] => { results := [.lit (.bool false)], args := [d1, d2] }
  | _ => none }
def FlowScaleWrongFalsely : Prop := flowScaleRow.holds Try.pinned (OpenSpec.ofChange flowScaleWrong)

/-- 'railplanlaw27.FlowReverse': WHATEVER THE INPUT: true; the input reads as it did. -/
def flowReverseSpec : ChangeSpec := { name := "flowReverse", fn := fun _ => fun
  | [d] => { results := [.lit (.bool true)], args := [d] }
  | _ => none }
def flowReverseRow : OpenClaim := { program := "ytedocibniankjaa", sum := "afb6ec3a73316e3ae8c26b83539beaf9b682a6b847d493e7d3f60d187451fe27", func := "railplan/railplanlaw27.FlowReverse", spec := "flowReverse", apart := false }
def FlowReverseSaid : Prop := flowReverseRow.holds Try.pinned (OpenSpec.ofChange flowReverseSpec)

/-- ITS FALSE NEIGHBOUR: 'it returns false'. Refute it at one input. -/
def flowReverseWrong : ChangeSpec := { name := "flowReverse", fn := fun _ => fun
  | [d] => { results := [.lit (.bool false)], args := [d] }
  | _ => none }
def FlowReverseWrongFalsely : Prop := flowReverseRow.holds Try.pinned (OpenSpec.ofChange flowReverseWrong)

/-- 'railplanlaw27.FlowLarge': WHATEVER THE INPUT: true; the input reads as it did. -/
def flowLargeSpec : ChangeSpec := { name := "flowLarge", fn := fun _ => fun
  | [d1, d2, d3, d4] => { results := [.lit (.bool true)], args := [d1, d2, d3, d4] }
  | _ => none }
def flowLargeRow : OpenClaim := { program := "ytedocibniankjaa", sum := "afb6ec3a73316e3ae8c26b83539beaf9b682a6b847d493e7d3f60d187451fe27", func := "railplan/railplanlaw27.FlowLarge", spec := "flowLarge", apart := false }
def FlowLargeSaid : Prop := flowLargeRow.holds Try.pinned (OpenSpec.ofChange flowLargeSpec)

/-- ITS FALSE NEIGHBOUR: 'it returns false'. Refute it at one input. -/
def flowLargeWrong : ChangeSpec := { name := "flowLarge", fn := fun _ => fun
  | [d1, d2, d3, d4] => { results := [.lit (.bool false)], args := [d1, d2, d3, d4] }
  | _ => none }
def FlowLargeWrongFalsely : Prop := flowLargeRow.holds Try.pinned (OpenSpec.ofChange flowLargeWrong)

/-- 'railplanlaw27.FlowRaw': WHATEVER THE INPUT: true; the input reads as it did. -/
def flowRawSpec : ChangeSpec := { name := "flowRaw", fn := fun _ => fun
  | [d1, d2, d3] => { results := [.lit (.bool true)], args := [d1, d2, d3] }
  | _ => none }
def flowRawRow : OpenClaim := { program := "ytedocibniankjaa", sum := "afb6ec3a73316e3ae8c26b83539beaf9b682a6b847d493e7d3f60d187451fe27", func := "railplan/railplanlaw27.FlowRaw", spec := "flowRaw", apart := false }
def FlowRawSaid : Prop := flowRawRow.holds Try.pinned (OpenSpec.ofChange flowRawSpec)

/-- ITS FALSE NEIGHBOUR: 'it returns false'. Refute it at one input. -/
def flowRawWrong : ChangeSpec := { name := "flowRaw", fn := fun _ => fun
  | [d1, d2, d3] => { results := [.lit (.bool false)], args := [d1, d2, d3] }
  | _ => none }
def FlowRawWrongFalsely : Prop := flowRawRow.holds Try.pinned (OpenSpec.ofChange flowRawWrong)

/-- 'railplanlaw27.FlowErrors': WHATEVER THE INPUT: true; the input reads as it did. -/
def flowErrorsSpec : ChangeSpec := { name := "flowErrors", fn := fun _ => fun
  | [d1, d2, d3, d4, d5] => { results := [.lit (.bool true)], args := [d1, d2, d3, d4, d5] }
  | _ => none }
def flowErrorsRow : OpenClaim := { program := "ytedocibniankjaa", sum := "afb6ec3a73316e3ae8c26b83539beaf9b682a6b847d493e7d3f60d187451fe27", func := "railplan/railplanlaw27.FlowErrors", spec := "flowErrors", unfollowed := true, recurses := true, apart := false }
def FlowErrorsSaid : Prop := flowErrorsRow.holds Try.pinned (OpenSpec.ofChange flowErrorsSpec)

/-- ITS FALSE NEIGHBOUR: 'it returns false'. Refute it at one input. -/
def flowErrorsWrong : ChangeSpec := { name := "flowErrors", fn := fun _ => fun
  | [d1, d2, d3, d4, d5] => { results := [.lit (.bool false)], args := [d1, d2, d3, d4, d5] }
  | _ => none }
def FlowErrorsWrongFalsely : Prop := flowErrorsRow.holds Try.pinned (OpenSpec.ofChange flowErrorsWrong)

/-- 'railplanlaw27.FlowProof': WHATEVER THE INPUT: true; the input reads as it did. -/
def flowProofSpec : ChangeSpec := { name := "flowProof", fn := fun _ => fun
  | [d] => { results := [.lit (.bool true)], args := [d] }
  | _ => none }
def flowProofRow : OpenClaim := { program := "ytedocibniankjaa", sum := "afb6ec3a73316e3ae8c26b83539beaf9b682a6b847d493e7d3f60d187451fe27", func := "railplan/railplanlaw27.FlowProof", spec := "flowProof", unfollowed := true, recurses := true, apart := false }
def FlowProofSaid : Prop := flowProofRow.holds Try.pinned (OpenSpec.ofChange flowProofSpec)

/-- ITS FALSE NEIGHBOUR: 'it returns false'. Refute it at one input. -/
def flowProofWrong : ChangeSpec := { name := "flowProof", fn := fun _ => fun
  | [d] => { results := [.lit (.bool false)], args := [d] }
  | _ => none }
def FlowProofWrongFalsely : Prop := flowProofRow.holds Try.pinned (OpenSpec.ofChange flowProofWrong)

/-- 'railplanlaw28.CirculationCheck': WHATEVER THE INPUT: true; the input reads as it did. -/
def circulationCheckSpec : ChangeSpec := { name := "circulationCheck", fn := fun _ => fun
  | [d1, d2, d3, d4, d5, d6] => { results := [.lit (.bool true)], args := [d1, d2, d3, d4, d5, d6] }
  | _ => none }
def circulationCheckRow : OpenClaim := { program := "ytedocibniankjaa", sum := "afb6ec3a73316e3ae8c26b83539beaf9b682a6b847d493e7d3f60d187451fe27", func := "railplan/railplanlaw28.CirculationCheck", spec := "circulationCheck", apart := false }
def CirculationCheckSaid : Prop := circulationCheckRow.holds Try.pinned (OpenSpec.ofChange circulationCheckSpec)

/-- ITS FALSE NEIGHBOUR: 'it returns false'. Refute it at one input. -/
def circulationCheckWrong : ChangeSpec := { name := "circulationCheck", fn := fun _ => fun
  | [d1, d2, d3, d4, d5, d6] => { results := [.lit (.bool false)], args := [d1, d2, d3, d4, d5, d6] }
  | _ => none }
def CirculationCheckWrongFalsely : Prop := circulationCheckRow.holds Try.pinned (OpenSpec.ofChange circulationCheckWrong)

/-- 'railplanlaw28.CirculationFollows': WHATEVER THE INPUT: true; the input reads as it did. -/
def circulationFollowsSpec : ChangeSpec := { name := "circulationFollows", fn := fun _ => fun
  | [d] => { results := [.lit (.bool true)], args := [d] }
  | _ => none }
def circulationFollowsRow : OpenClaim := { program := "ytedocibniankjaa", sum := "afb6ec3a73316e3ae8c26b83539beaf9b682a6b847d493e7d3f60d187451fe27", func := "railplan/railplanlaw28.CirculationFollows", spec := "circulationFollows", apart := false }
def CirculationFollowsSaid : Prop := circulationFollowsRow.holds Try.pinned (OpenSpec.ofChange circulationFollowsSpec)

/-- ITS FALSE NEIGHBOUR: 'it returns false'. Refute it at one input. -/
def circulationFollowsWrong : ChangeSpec := { name := "circulationFollows", fn := fun _ => fun
  | [d] => { results := [.lit (.bool false)], args := [d] }
  | _ => none }
def CirculationFollowsWrongFalsely : Prop := circulationFollowsRow.holds Try.pinned (OpenSpec.ofChange circulationFollowsWrong)

/-- 'railplanlaw28.CirculationChains': WHATEVER THE INPUT: true; the input reads as it did. -/
def circulationChainsSpec : ChangeSpec := { name := "circulationChains", fn := fun _ => fun
  | [d1, d2] => { results := [.lit (.bool true)], args := [d1, d2] }
  | _ => none }
def circulationChainsRow : OpenClaim := { program := "ytedocibniankjaa", sum := "afb6ec3a73316e3ae8c26b83539beaf9b682a6b847d493e7d3f60d187451fe27", func := "railplan/railplanlaw28.CirculationChains", spec := "circulationChains", apart := false }
def CirculationChainsSaid : Prop := circulationChainsRow.holds Try.pinned (OpenSpec.ofChange circulationChainsSpec)

/-- ITS FALSE NEIGHBOUR: 'it returns false'. Refute it at one input. -/
def circulationChainsWrong : ChangeSpec := { name := "circulationChains", fn := fun _ => fun
  | [d1, d2] => { results := [.lit (.bool false)], args := [d1, d2] }
  | _ => none }
def CirculationChainsWrongFalsely : Prop := circulationChainsRow.holds Try.pinned (OpenSpec.ofChange circulationChainsWrong)

/-- 'railplanlaw28.CirculationPartition': WHATEVER THE INPUT: true; the input reads as it did. -/
def circulationPartitionSpec : ChangeSpec := { name := "circulationPartition", fn := fun _ => fun
  | [d] => { results := [.lit (.bool true)], args := [d] }
  | _ => none }
def circulationPartitionRow : OpenClaim := { program := "ytedocibniankjaa", sum := "afb6ec3a73316e3ae8c26b83539beaf9b682a6b847d493e7d3f60d187451fe27", func := "railplan/railplanlaw28.CirculationPartition", spec := "circulationPartition", apart := false }
def CirculationPartitionSaid : Prop := circulationPartitionRow.holds Try.pinned (OpenSpec.ofChange circulationPartitionSpec)

/-- ITS FALSE NEIGHBOUR: 'it returns false'. Refute it at one input. -/
def circulationPartitionWrong : ChangeSpec := { name := "circulationPartition", fn := fun _ => fun
  | [d] => { results := [.lit (.bool false)], args := [d] }
  | _ => none }
def CirculationPartitionWrongFalsely : Prop := circulationPartitionRow.holds Try.pinned (OpenSpec.ofChange circulationPartitionWrong)

/-- 'railplanlaw28.CirculationBuild': WHATEVER THE INPUT: true; the input reads as it did. -/
def circulationBuildSpec : ChangeSpec := { name := "circulationBuild", fn := fun _ => fun
  | [d] => { results := [.lit (.bool true)], args := [d] }
  | _ => none }
def circulationBuildRow : OpenClaim := { program := "ytedocibniankjaa", sum := "afb6ec3a73316e3ae8c26b83539beaf9b682a6b847d493e7d3f60d187451fe27", func := "railplan/railplanlaw28.CirculationBuild", spec := "circulationBuild", recurses := true, apart := false }
def CirculationBuildSaid : Prop := circulationBuildRow.holds Try.pinned (OpenSpec.ofChange circulationBuildSpec)

/-- ITS FALSE NEIGHBOUR: 'it returns false'. Refute it at one input. -/
def circulationBuildWrong : ChangeSpec := { name := "circulationBuild", fn := fun _ => fun
  | [d] => { results := [.lit (.bool false)], args := [d] }
  | _ => none }
def CirculationBuildWrongFalsely : Prop := circulationBuildRow.holds Try.pinned (OpenSpec.ofChange circulationBuildWrong)

/-- 'railplanlaw28.CirculationSplit': WHATEVER THE INPUT: true; the input reads as it did. -/
def circulationSplitSpec : ChangeSpec := { name := "circulationSplit", fn := fun _ => fun
  | [d1, d2, d3] => { results := [.lit (.bool true)], args := [d1, d2, d3] }
  | _ => none }
def circulationSplitRow : OpenClaim := { program := "ytedocibniankjaa", sum := "afb6ec3a73316e3ae8c26b83539beaf9b682a6b847d493e7d3f60d187451fe27", func := "railplan/railplanlaw28.CirculationSplit", spec := "circulationSplit", apart := false }
def CirculationSplitSaid : Prop := circulationSplitRow.holds Try.pinned (OpenSpec.ofChange circulationSplitSpec)

/-- ITS FALSE NEIGHBOUR: 'it returns false'. Refute it at one input. -/
def circulationSplitWrong : ChangeSpec := { name := "circulationSplit", fn := fun _ => fun
  | [d1, d2, d3] => { results := [.lit (.bool false)], args := [d1, d2, d3] }
  | _ => none }
def CirculationSplitWrongFalsely : Prop := circulationSplitRow.holds Try.pinned (OpenSpec.ofChange circulationSplitWrong)

/-- 'railplanlaw28.CirculationFewest': WHATEVER THE INPUT: true; the input reads as it did. -/
def circulationFewestSpec : ChangeSpec := { name := "circulationFewest", fn := fun _ => fun
  | [d1, d2] => { results := [.lit (.bool true)], args := [d1, d2] }
  | _ => none }
def circulationFewestRow : OpenClaim := { program := "ytedocibniankjaa", sum := "afb6ec3a73316e3ae8c26b83539beaf9b682a6b847d493e7d3f60d187451fe27", func := "railplan/railplanlaw28.CirculationFewest", spec := "circulationFewest", apart := false }
def CirculationFewestSaid : Prop := circulationFewestRow.holds Try.pinned (OpenSpec.ofChange circulationFewestSpec)

/-- ITS FALSE NEIGHBOUR: 'it returns false'. Refute it at one input. -/
def circulationFewestWrong : ChangeSpec := { name := "circulationFewest", fn := fun _ => fun
  | [d1, d2] => { results := [.lit (.bool false)], args := [d1, d2] }
  | _ => none }
def CirculationFewestWrongFalsely : Prop := circulationFewestRow.holds Try.pinned (OpenSpec.ofChange circulationFewestWrong)

/-- 'railplanlaw28.CirculationVerify': WHATEVER THE INPUT: true; the input reads as it did. -/
def circulationVerifySpec : ChangeSpec := { name := "circulationVerify", fn := fun _ => fun
  | [d1, d2, d3, d4, d5, d6] => { results := [.lit (.bool true)], args := [d1, d2, d3, d4, d5, d6] }
  | _ => none }
def circulationVerifyRow : OpenClaim := { program := "ytedocibniankjaa", sum := "afb6ec3a73316e3ae8c26b83539beaf9b682a6b847d493e7d3f60d187451fe27", func := "railplan/railplanlaw28.CirculationVerify", spec := "circulationVerify", apart := false }
def CirculationVerifySaid : Prop := circulationVerifyRow.holds Try.pinned (OpenSpec.ofChange circulationVerifySpec)

/-- ITS FALSE NEIGHBOUR: 'it returns false'. Refute it at one input. -/
def circulationVerifyWrong : ChangeSpec := { name := "circulationVerify", fn := fun _ => fun
  | [d1, d2, d3, d4, d5, d6] => { results := [.lit (.bool false)], args := [d1, d2, d3, d4, d5, d6] }
  | _ => none }
def CirculationVerifyWrongFalsely : Prop := circulationVerifyRow.holds Try.pinned (OpenSpec.ofChange circulationVerifyWrong)

/-- 'railplanlaw28.CirculationErrors': WHATEVER THE INPUT: true; the input reads as it did. -/
def circulationErrorsSpec : ChangeSpec := { name := "circulationErrors", fn := fun _ => fun
  | [d1, d2, d3, d4] => { results := [.lit (.bool true)], args := [d1, d2, d3, d4] }
  | _ => none }
def circulationErrorsRow : OpenClaim := { program := "ytedocibniankjaa", sum := "afb6ec3a73316e3ae8c26b83539beaf9b682a6b847d493e7d3f60d187451fe27", func := "railplan/railplanlaw28.CirculationErrors", spec := "circulationErrors", apart := false }
def CirculationErrorsSaid : Prop := circulationErrorsRow.holds Try.pinned (OpenSpec.ofChange circulationErrorsSpec)

/-- ITS FALSE NEIGHBOUR: 'it returns false'. Refute it at one input. -/
def circulationErrorsWrong : ChangeSpec := { name := "circulationErrors", fn := fun _ => fun
  | [d1, d2, d3, d4] => { results := [.lit (.bool false)], args := [d1, d2, d3, d4] }
  | _ => none }
def CirculationErrorsWrongFalsely : Prop := circulationErrorsRow.holds Try.pinned (OpenSpec.ofChange circulationErrorsWrong)

/- THE SECOND FORM. 'bulk': how many values and letters a reading holds, each counted each time it is reached (what is shared counts as often as it is met; a slice's spare places count too). A statement '..UptoSaid' is the law's where the arguments, and the package variables that the reading takes, are together of bulk at most 1048576: NARROWER than '..Said'. Prove '..Said' where nothing that the law and all that it calls make is longer than what came in: it says more and counts as full. Else prove '..UptoSaid'. A law counts once. -/
mutual
def uptoBulk {H : Type} : DataW H → Nat
  | .lit (.string bytes) => bytes.length + 1
  | .lit _ => 1
  | .nil => 1
  | .ptr d => uptoBulk d + 1
  | .slice elems spare => uptoBulkAll elems + uptoBulkAll spare + 1
  | .agg parts => uptoBulkAll parts + 1
  | .iface _ d => uptoBulk d + 1
  | .map entries => uptoBulkEntries entries + 1
  | .held _ => 1
def uptoBulkAll {H : Type} : List (DataW H) → Nat
  | [] => 0
  | d :: r => uptoBulk d + uptoBulkAll r
def uptoBulkEntries {H : Type} : List (Lit × DataW H) → Nat
  | [] => 0
  | x :: r => uptoBulkEntry x + uptoBulkEntries r
def uptoBulkEntry {H : Type} : Lit × DataW H → Nat
  | (.string bytes, d) => bytes.length + uptoBulk d + 1
  | (_, d) => uptoBulk d + 1
 end
def uptoSmall : (H : Type) → List (DataW H) → Bool := fun _ ds => decide (uptoBulkAll ds ≤ 1048576)
def OpenSpec.upto (s : _root_.Go.ChangeSpec) : _root_.Go.OpenSpec := { _root_.Go.OpenSpec.ofChange s with cond := some uptoSmall }

/-- 'railplanlaw27.FlowLeast', WHERE WHAT IT READS IS OF BULK AT MOST 1048576: true; the input reads as it did. -/
def flowLeastUptoRow : OpenClaim := { program := "ytedocibniankjaa", sum := "afb6ec3a73316e3ae8c26b83539beaf9b682a6b847d493e7d3f60d187451fe27", func := "railplan/railplanlaw27.FlowLeast", spec := "flowLeast", apart := false, narrowed := true }
def FlowLeastUptoSaid : Prop := flowLeastUptoRow.holds Try.pinned (OpenSpec.upto flowLeastSpec)

/-- 'railplanlaw27.FlowVerify', WHERE WHAT IT READS IS OF BULK AT MOST 1048576: true; the input reads as it did. -/
def flowVerifyUptoRow : OpenClaim := { program := "ytedocibniankjaa", sum := "afb6ec3a73316e3ae8c26b83539beaf9b682a6b847d493e7d3f60d187451fe27", func := "railplan/railplanlaw27.FlowVerify", spec := "flowVerify", apart := false, narrowed := true }
def FlowVerifyUptoSaid : Prop := flowVerifyUptoRow.holds Try.pinned (OpenSpec.upto flowVerifySpec)

/-- 'railplanlaw27.FlowScale', WHERE WHAT IT READS IS OF BULK AT MOST 1048576: true; the input reads as it did. -/
def flowScaleUptoRow : OpenClaim := { program := "ytedocibniankjaa", sum := "afb6ec3a73316e3ae8c26b83539beaf9b682a6b847d493e7d3f60d187451fe27", func := "railplan/railplanlaw27.FlowScale", spec := "flowScale", apart := false, narrowed := true }
def FlowScaleUptoSaid : Prop := flowScaleUptoRow.holds Try.pinned (OpenSpec.upto flowScaleSpec)

/-- 'railplanlaw27.FlowReverse', WHERE WHAT IT READS IS OF BULK AT MOST 1048576: true; the input reads as it did. -/
def flowReverseUptoRow : OpenClaim := { program := "ytedocibniankjaa", sum := "afb6ec3a73316e3ae8c26b83539beaf9b682a6b847d493e7d3f60d187451fe27", func := "railplan/railplanlaw27.FlowReverse", spec := "flowReverse", apart := false, narrowed := true }
def FlowReverseUptoSaid : Prop := flowReverseUptoRow.holds Try.pinned (OpenSpec.upto flowReverseSpec)

/-- 'railplanlaw27.FlowLarge', WHERE WHAT IT READS IS OF BULK AT MOST 1048576: true; the input reads as it did. -/
def flowLargeUptoRow : OpenClaim := { program := "ytedocibniankjaa", sum := "afb6ec3a73316e3ae8c26b83539beaf9b682a6b847d493e7d3f60d187451fe27", func := "railplan/railplanlaw27.FlowLarge", spec := "flowLarge", apart := false, narrowed := true }
def FlowLargeUptoSaid : Prop := flowLargeUptoRow.holds Try.pinned (OpenSpec.upto flowLargeSpec)

/-- 'railplanlaw27.FlowRaw', WHERE WHAT IT READS IS OF BULK AT MOST 1048576: true; the input reads as it did. -/
def flowRawUptoRow : OpenClaim := { program := "ytedocibniankjaa", sum := "afb6ec3a73316e3ae8c26b83539beaf9b682a6b847d493e7d3f60d187451fe27", func := "railplan/railplanlaw27.FlowRaw", spec := "flowRaw", apart := false, narrowed := true }
def FlowRawUptoSaid : Prop := flowRawUptoRow.holds Try.pinned (OpenSpec.upto flowRawSpec)

/-- 'railplanlaw27.FlowErrors', WHERE WHAT IT READS IS OF BULK AT MOST 1048576: true; the input reads as it did. -/
def flowErrorsUptoRow : OpenClaim := { program := "ytedocibniankjaa", sum := "afb6ec3a73316e3ae8c26b83539beaf9b682a6b847d493e7d3f60d187451fe27", func := "railplan/railplanlaw27.FlowErrors", spec := "flowErrors", unfollowed := true, recurses := true, apart := false, narrowed := true }
def FlowErrorsUptoSaid : Prop := flowErrorsUptoRow.holds Try.pinned (OpenSpec.upto flowErrorsSpec)

/-- 'railplanlaw27.FlowProof', WHERE WHAT IT READS IS OF BULK AT MOST 1048576: true; the input reads as it did. -/
def flowProofUptoRow : OpenClaim := { program := "ytedocibniankjaa", sum := "afb6ec3a73316e3ae8c26b83539beaf9b682a6b847d493e7d3f60d187451fe27", func := "railplan/railplanlaw27.FlowProof", spec := "flowProof", unfollowed := true, recurses := true, apart := false, narrowed := true }
def FlowProofUptoSaid : Prop := flowProofUptoRow.holds Try.pinned (OpenSpec.upto flowProofSpec)

/-- 'railplanlaw28.CirculationCheck', WHERE WHAT IT READS IS OF BULK AT MOST 1048576: true; the input reads as it did. -/
def circulationCheckUptoRow : OpenClaim := { program := "ytedocibniankjaa", sum := "afb6ec3a73316e3ae8c26b83539beaf9b682a6b847d493e7d3f60d187451fe27", func := "railplan/railplanlaw28.CirculationCheck", spec := "circulationCheck", apart := false, narrowed := true }
def CirculationCheckUptoSaid : Prop := circulationCheckUptoRow.holds Try.pinned (OpenSpec.upto circulationCheckSpec)

/-- 'railplanlaw28.CirculationFollows', WHERE WHAT IT READS IS OF BULK AT MOST 1048576: true; the input reads as it did. -/
def circulationFollowsUptoRow : OpenClaim := { program := "ytedocibniankjaa", sum := "afb6ec3a73316e3ae8c26b83539beaf9b682a6b847d493e7d3f60d187451fe27", func := "railplan/railplanlaw28.CirculationFollows", spec := "circulationFollows", apart := false, narrowed := true }
def CirculationFollowsUptoSaid : Prop := circulationFollowsUptoRow.holds Try.pinned (OpenSpec.upto circulationFollowsSpec)

/-- 'railplanlaw28.CirculationChains', WHERE WHAT IT READS IS OF BULK AT MOST 1048576: true; the input reads as it did. -/
def circulationChainsUptoRow : OpenClaim := { program := "ytedocibniankjaa", sum := "afb6ec3a73316e3ae8c26b83539beaf9b682a6b847d493e7d3f60d187451fe27", func := "railplan/railplanlaw28.CirculationChains", spec := "circulationChains", apart := false, narrowed := true }
def CirculationChainsUptoSaid : Prop := circulationChainsUptoRow.holds Try.pinned (OpenSpec.upto circulationChainsSpec)

/-- 'railplanlaw28.CirculationPartition', WHERE WHAT IT READS IS OF BULK AT MOST 1048576: true; the input reads as it did. -/
def circulationPartitionUptoRow : OpenClaim := { program := "ytedocibniankjaa", sum := "afb6ec3a73316e3ae8c26b83539beaf9b682a6b847d493e7d3f60d187451fe27", func := "railplan/railplanlaw28.CirculationPartition", spec := "circulationPartition", apart := false, narrowed := true }
def CirculationPartitionUptoSaid : Prop := circulationPartitionUptoRow.holds Try.pinned (OpenSpec.upto circulationPartitionSpec)

/-- 'railplanlaw28.CirculationBuild', WHERE WHAT IT READS IS OF BULK AT MOST 1048576: true; the input reads as it did. -/
def circulationBuildUptoRow : OpenClaim := { program := "ytedocibniankjaa", sum := "afb6ec3a73316e3ae8c26b83539beaf9b682a6b847d493e7d3f60d187451fe27", func := "railplan/railplanlaw28.CirculationBuild", spec := "circulationBuild", recurses := true, apart := false, narrowed := true }
def CirculationBuildUptoSaid : Prop := circulationBuildUptoRow.holds Try.pinned (OpenSpec.upto circulationBuildSpec)

/-- 'railplanlaw28.CirculationSplit', WHERE WHAT IT READS IS OF BULK AT MOST 1048576: true; the input reads as it did. -/
def circulationSplitUptoRow : OpenClaim := { program := "ytedocibniankjaa", sum := "afb6ec3a73316e3ae8c26b83539beaf9b682a6b847d493e7d3f60d187451fe27", func := "railplan/railplanlaw28.CirculationSplit", spec := "circulationSplit", apart := false, narrowed := true }
def CirculationSplitUptoSaid : Prop := circulationSplitUptoRow.holds Try.pinned (OpenSpec.upto circulationSplitSpec)

/-- 'railplanlaw28.CirculationFewest', WHERE WHAT IT READS IS OF BULK AT MOST 1048576: true; the input reads as it did. -/
def circulationFewestUptoRow : OpenClaim := { program := "ytedocibniankjaa", sum := "afb6ec3a73316e3ae8c26b83539beaf9b682a6b847d493e7d3f60d187451fe27", func := "railplan/railplanlaw28.CirculationFewest", spec := "circulationFewest", apart := false, narrowed := true }
def CirculationFewestUptoSaid : Prop := circulationFewestUptoRow.holds Try.pinned (OpenSpec.upto circulationFewestSpec)

/-- 'railplanlaw28.CirculationVerify', WHERE WHAT IT READS IS OF BULK AT MOST 1048576: true; the input reads as it did. -/
def circulationVerifyUptoRow : OpenClaim := { program := "ytedocibniankjaa", sum := "afb6ec3a73316e3ae8c26b83539beaf9b682a6b847d493e7d3f60d187451fe27", func := "railplan/railplanlaw28.CirculationVerify", spec := "circulationVerify", apart := false, narrowed := true }
def CirculationVerifyUptoSaid : Prop := circulationVerifyUptoRow.holds Try.pinned (OpenSpec.upto circulationVerifySpec)

/-- 'railplanlaw28.CirculationErrors', WHERE WHAT IT READS IS OF BULK AT MOST 1048576: true; the input reads as it did. -/
def circulationErrorsUptoRow : OpenClaim := { program := "ytedocibniankjaa", sum := "afb6ec3a73316e3ae8c26b83539beaf9b682a6b847d493e7d3f60d187451fe27", func := "railplan/railplanlaw28.CirculationErrors", spec := "circulationErrors", apart := false, narrowed := true }
def CirculationErrorsUptoSaid : Prop := circulationErrorsUptoRow.holds Try.pinned (OpenSpec.upto circulationErrorsSpec)

end Rows
end Go.Proofs.Ytedocibniankjaa

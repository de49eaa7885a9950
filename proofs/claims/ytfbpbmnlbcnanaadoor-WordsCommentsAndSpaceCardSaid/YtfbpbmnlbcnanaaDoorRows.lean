/-
  NARROWER THAN 'FOR EVERY INPUT', by the rows' own cells (each row's printed sentence says how): WordsExamples: laid · WordsNames: laid · WordsNumberRoundTrip: laid · WordsLines: laid · WordsLimits: laid · WordsCommentsAndSpace: laid · WordsNumbers: laid · WordsRanges: laid · WordsJoins: laid · WordsRoundTrip: laid.
  DERIVED. THE GIVEN ROWS OF THIS SEAT. 10 by the template 'for every input the law returns true; each argument reads behind the call as it read before'; 0 by the template 'total and deterministic' (their statements: YtfbpbmnlbcnanaaDoorTotals.lean).
  GIVEN WITH THE SEED: the statements are not yours to turn. If you find one false, say at which input.
  Laid BY PROGRAM, IN A SANDBOX (cutbox-rows.mjs): the forced cells as the released guide's own fill.sh prints them over the translation eaed5dde2327fba7… (all of the seat's roots in one cut). By AI agents, Wed Nov 11 2026. No macro, syntax, notation, axiom, sorry.
-/
import Derived.Test.YtfbpbmnlbcnanaaDoorChecked
import GoSem.PinnedTables
import GoSem.Claim
import GoSem.ClaimJoined
import GoSem.ClaimMapViews
import Derived.JoinedTies
import Derived.KernelRfl
namespace Go.Proofs.YtfbpbmnlbcnanaaDoor
/- THE CELL 'sum', in the pinned program and in every row, IS THE sha256 OF THE DUMP (.gsa) THAT YtfbpbmnlbcnanaaDoorProg.lean LOADS. Nothing in Lean hashes anything: it is a label: what it is worth is what the hold of that sum in a sandbox is worth. -/
noncomputable def Tryd.pinned : Pinned := { name := "ytfbpbmnlbcnanaadoor", sum := "eaed5dde2327fba77948293082d75c101005c3cabceed4ee6c6bfd5b32c6af69", checked := Tryd.checked }
namespace Rows
def none {H : Type} : Left H := { results := [], args := [] }

/- WHAT THE LISTED PACKAGE-LEVEL VARIABLES READ AS WHEN THE CALL BEGINS. Each datum BY PROGRAM (the guide's laid-datum.mjs) off the statement by which the dump's own 'gosem.cut.vars' lays the variable. In a bare row this is a premise. The card (YtfbpbmnlbcnanaaDoorCards.lean) ties it to the program's text. -/
def laid_unicode_utf8_acceptRanges {H : Type} : DataW H := .agg [.agg [.lit (.int .u8 128), .lit (.int .u8 191)], .agg [.lit (.int .u8 160), .lit (.int .u8 191)], .agg [.lit (.int .u8 128), .lit (.int .u8 159)], .agg [.lit (.int .u8 144), .lit (.int .u8 191)], .agg [.lit (.int .u8 128), .lit (.int .u8 143)], .agg [.lit (.int .u8 0), .lit (.int .u8 0)], .agg [.lit (.int .u8 0), .lit (.int .u8 0)], .agg [.lit (.int .u8 0), .lit (.int .u8 0)], .agg [.lit (.int .u8 0), .lit (.int .u8 0)], .agg [.lit (.int .u8 0), .lit (.int .u8 0)], .agg [.lit (.int .u8 0), .lit (.int .u8 0)], .agg [.lit (.int .u8 0), .lit (.int .u8 0)], .agg [.lit (.int .u8 0), .lit (.int .u8 0)], .agg [.lit (.int .u8 0), .lit (.int .u8 0)], .agg [.lit (.int .u8 0), .lit (.int .u8 0)], .agg [.lit (.int .u8 0), .lit (.int .u8 0)]]
/-- One of Go's own tables, pinned by name: the form's constant. -/
def laid_unicode_utf8_first : DataW Unit := Go.Pinned.utf8First

/-- 'railplanlaw3.WordsExamples': WHATEVER THE INPUT: true; the input reads as it did. -/
def wordsExamplesSpec : ChangeSpec := { name := "wordsExamples", fn := fun _ => fun
  | [] => { results := [.lit (.bool true)], args := [] }
  | _ => none }
def wordsExamplesRow : OpenClaim := { program := "ytfbpbmnlbcnanaadoor", sum := "eaed5dde2327fba77948293082d75c101005c3cabceed4ee6c6bfd5b32c6af69", func := "railplan/railplanlaw3.WordsExamples", spec := "wordsExamples", inPlace := ["internal/bytealg.IndexByteString", "internal/bytealg.IndexString"], unfollowed := true, recurses := true, named := ["unicode/utf8.first", "unicode/utf8.acceptRanges", "internal/bytealg.MaxLen"], apart := false, laid := [("unicode/utf8.acceptRanges", laid_unicode_utf8_acceptRanges), ("unicode/utf8.first", laid_unicode_utf8_first)] }
def WordsExamplesSaid : Prop := wordsExamplesRow.holds Tryd.pinned (OpenSpec.ofChange wordsExamplesSpec)

/-- ITS FALSE NEIGHBOUR: 'it returns false'. Refute it at one input. -/
def wordsExamplesWrong : ChangeSpec := { name := "wordsExamples", fn := fun _ => fun
  | [] => { results := [.lit (.bool false)], args := [] }
  | _ => none }
def WordsExamplesWrongFalsely : Prop := wordsExamplesRow.holds Tryd.pinned (OpenSpec.ofChange wordsExamplesWrong)

/-- 'railplanlaw3.WordsNames': WHATEVER THE INPUT: true; the input reads as it did. -/
def wordsNamesSpec : ChangeSpec := { name := "wordsNames", fn := fun _ => fun
  | [d1, d2] => { results := [.lit (.bool true)], args := [d1, d2] }
  | _ => none }
def wordsNamesRow : OpenClaim := { program := "ytfbpbmnlbcnanaadoor", sum := "eaed5dde2327fba77948293082d75c101005c3cabceed4ee6c6bfd5b32c6af69", func := "railplan/railplanlaw3.WordsNames", spec := "wordsNames", inPlace := ["internal/bytealg.IndexByteString", "internal/bytealg.IndexString"], unfollowed := true, recurses := true, named := ["unicode/utf8.first", "unicode/utf8.acceptRanges", "internal/bytealg.MaxLen"], apart := false, laid := [("unicode/utf8.acceptRanges", laid_unicode_utf8_acceptRanges), ("unicode/utf8.first", laid_unicode_utf8_first)] }
def WordsNamesSaid : Prop := wordsNamesRow.holds Tryd.pinned (OpenSpec.ofChange wordsNamesSpec)

/-- ITS FALSE NEIGHBOUR: 'it returns false'. Refute it at one input. -/
def wordsNamesWrong : ChangeSpec := { name := "wordsNames", fn := fun _ => fun
  | [d1, d2] => { results := [.lit (.bool false)], args := [d1, d2] }
  | _ => none }
def WordsNamesWrongFalsely : Prop := wordsNamesRow.holds Tryd.pinned (OpenSpec.ofChange wordsNamesWrong)

/-- 'railplanlaw3.WordsNumberRoundTrip': WHATEVER THE INPUT: true; the input reads as it did. -/
def wordsNumberRoundTripSpec : ChangeSpec := { name := "wordsNumberRoundTrip", fn := fun _ => fun
  | [d1, d2] => { results := [.lit (.bool true)], args := [d1, d2] }
  | _ => none }
def wordsNumberRoundTripRow : OpenClaim := { program := "ytfbpbmnlbcnanaadoor", sum := "eaed5dde2327fba77948293082d75c101005c3cabceed4ee6c6bfd5b32c6af69", func := "railplan/railplanlaw3.WordsNumberRoundTrip", spec := "wordsNumberRoundTrip", inPlace := ["internal/bytealg.IndexByteString", "internal/bytealg.IndexString"], unfollowed := true, recurses := true, named := ["unicode/utf8.first", "unicode/utf8.acceptRanges", "internal/bytealg.MaxLen"], apart := false, laid := [("unicode/utf8.acceptRanges", laid_unicode_utf8_acceptRanges), ("unicode/utf8.first", laid_unicode_utf8_first)] }
def WordsNumberRoundTripSaid : Prop := wordsNumberRoundTripRow.holds Tryd.pinned (OpenSpec.ofChange wordsNumberRoundTripSpec)

/-- ITS FALSE NEIGHBOUR: 'it returns false'. Refute it at one input. -/
def wordsNumberRoundTripWrong : ChangeSpec := { name := "wordsNumberRoundTrip", fn := fun _ => fun
  | [d1, d2] => { results := [.lit (.bool false)], args := [d1, d2] }
  | _ => none }
def WordsNumberRoundTripWrongFalsely : Prop := wordsNumberRoundTripRow.holds Tryd.pinned (OpenSpec.ofChange wordsNumberRoundTripWrong)

/-- 'railplanlaw3.WordsLines': WHATEVER THE INPUT: true; the input reads as it did. -/
def wordsLinesSpec : ChangeSpec := { name := "wordsLines", fn := fun _ => fun
  | [d1, d2] => { results := [.lit (.bool true)], args := [d1, d2] }
  | _ => none }
def wordsLinesRow : OpenClaim := { program := "ytfbpbmnlbcnanaadoor", sum := "eaed5dde2327fba77948293082d75c101005c3cabceed4ee6c6bfd5b32c6af69", func := "railplan/railplanlaw3.WordsLines", spec := "wordsLines", inPlace := ["internal/bytealg.IndexByteString", "internal/bytealg.IndexString"], unfollowed := true, recurses := true, named := ["unicode/utf8.first", "unicode/utf8.acceptRanges", "internal/bytealg.MaxLen"], apart := false, laid := [("unicode/utf8.acceptRanges", laid_unicode_utf8_acceptRanges), ("unicode/utf8.first", laid_unicode_utf8_first)] }
def WordsLinesSaid : Prop := wordsLinesRow.holds Tryd.pinned (OpenSpec.ofChange wordsLinesSpec)

/-- ITS FALSE NEIGHBOUR: 'it returns false'. Refute it at one input. -/
def wordsLinesWrong : ChangeSpec := { name := "wordsLines", fn := fun _ => fun
  | [d1, d2] => { results := [.lit (.bool false)], args := [d1, d2] }
  | _ => none }
def WordsLinesWrongFalsely : Prop := wordsLinesRow.holds Tryd.pinned (OpenSpec.ofChange wordsLinesWrong)

/-- 'railplanlaw3.WordsLimits': WHATEVER THE INPUT: true; the input reads as it did. -/
def wordsLimitsSpec : ChangeSpec := { name := "wordsLimits", fn := fun _ => fun
  | [d1, d2, d3] => { results := [.lit (.bool true)], args := [d1, d2, d3] }
  | _ => none }
def wordsLimitsRow : OpenClaim := { program := "ytfbpbmnlbcnanaadoor", sum := "eaed5dde2327fba77948293082d75c101005c3cabceed4ee6c6bfd5b32c6af69", func := "railplan/railplanlaw3.WordsLimits", spec := "wordsLimits", inPlace := ["internal/bytealg.IndexByteString", "internal/bytealg.IndexString"], unfollowed := true, recurses := true, named := ["unicode/utf8.first", "unicode/utf8.acceptRanges", "internal/bytealg.MaxLen"], apart := false, laid := [("unicode/utf8.acceptRanges", laid_unicode_utf8_acceptRanges), ("unicode/utf8.first", laid_unicode_utf8_first)] }
def WordsLimitsSaid : Prop := wordsLimitsRow.holds Tryd.pinned (OpenSpec.ofChange wordsLimitsSpec)

/-- ITS FALSE NEIGHBOUR: 'it returns false'. Refute it at one input. -/
def wordsLimitsWrong : ChangeSpec := { name := "wordsLimits", fn := fun _ => fun
  | [d1, d2, d3] => { results := [.lit (.bool false)], args := [d1, d2, d3] }
  | _ => none }
def WordsLimitsWrongFalsely : Prop := wordsLimitsRow.holds Tryd.pinned (OpenSpec.ofChange wordsLimitsWrong)

/-- 'railplanlaw3.WordsCommentsAndSpace': WHATEVER THE INPUT: true; the input reads as it did. -/
def wordsCommentsAndSpaceSpec : ChangeSpec := { name := "wordsCommentsAndSpace", fn := fun _ => fun
  | [d1, d2] => { results := [.lit (.bool true)], args := [d1, d2] }
  | _ => none }
def wordsCommentsAndSpaceRow : OpenClaim := { program := "ytfbpbmnlbcnanaadoor", sum := "eaed5dde2327fba77948293082d75c101005c3cabceed4ee6c6bfd5b32c6af69", func := "railplan/railplanlaw3.WordsCommentsAndSpace", spec := "wordsCommentsAndSpace", inPlace := ["internal/bytealg.IndexByteString", "internal/bytealg.IndexString"], unfollowed := true, recurses := true, named := ["unicode/utf8.first", "unicode/utf8.acceptRanges", "internal/bytealg.MaxLen"], apart := false, laid := [("unicode/utf8.acceptRanges", laid_unicode_utf8_acceptRanges), ("unicode/utf8.first", laid_unicode_utf8_first)] }
def WordsCommentsAndSpaceSaid : Prop := wordsCommentsAndSpaceRow.holds Tryd.pinned (OpenSpec.ofChange wordsCommentsAndSpaceSpec)

/-- ITS FALSE NEIGHBOUR: 'it returns false'. Refute it at one input. -/
def wordsCommentsAndSpaceWrong : ChangeSpec := { name := "wordsCommentsAndSpace", fn := fun _ => fun
  | [d1, d2] => { results := [.lit (.bool false)], args := [d1, d2] }
  | _ => none }
def WordsCommentsAndSpaceWrongFalsely : Prop := wordsCommentsAndSpaceRow.holds Tryd.pinned (OpenSpec.ofChange wordsCommentsAndSpaceWrong)

/-- 'railplanlaw3.WordsNumbers': WHATEVER THE INPUT: true; the input reads as it did. -/
def wordsNumbersSpec : ChangeSpec := { name := "wordsNumbers", fn := fun _ => fun
  | [d1, d2] => { results := [.lit (.bool true)], args := [d1, d2] }
  | _ => none }
def wordsNumbersRow : OpenClaim := { program := "ytfbpbmnlbcnanaadoor", sum := "eaed5dde2327fba77948293082d75c101005c3cabceed4ee6c6bfd5b32c6af69", func := "railplan/railplanlaw3.WordsNumbers", spec := "wordsNumbers", inPlace := ["internal/bytealg.IndexByteString", "internal/bytealg.IndexString"], unfollowed := true, recurses := true, named := ["internal/bytealg.MaxLen", "unicode/utf8.first", "unicode/utf8.acceptRanges"], apart := false, laid := [("unicode/utf8.acceptRanges", laid_unicode_utf8_acceptRanges), ("unicode/utf8.first", laid_unicode_utf8_first)] }
def WordsNumbersSaid : Prop := wordsNumbersRow.holds Tryd.pinned (OpenSpec.ofChange wordsNumbersSpec)

/-- ITS FALSE NEIGHBOUR: 'it returns false'. Refute it at one input. -/
def wordsNumbersWrong : ChangeSpec := { name := "wordsNumbers", fn := fun _ => fun
  | [d1, d2] => { results := [.lit (.bool false)], args := [d1, d2] }
  | _ => none }
def WordsNumbersWrongFalsely : Prop := wordsNumbersRow.holds Tryd.pinned (OpenSpec.ofChange wordsNumbersWrong)

/-- 'railplanlaw3.WordsRanges': WHATEVER THE INPUT: true; the input reads as it did. -/
def wordsRangesSpec : ChangeSpec := { name := "wordsRanges", fn := fun _ => fun
  | [d1, d2] => { results := [.lit (.bool true)], args := [d1, d2] }
  | _ => none }
def wordsRangesRow : OpenClaim := { program := "ytfbpbmnlbcnanaadoor", sum := "eaed5dde2327fba77948293082d75c101005c3cabceed4ee6c6bfd5b32c6af69", func := "railplan/railplanlaw3.WordsRanges", spec := "wordsRanges", inPlace := ["internal/bytealg.IndexByteString", "internal/bytealg.IndexString"], unfollowed := true, recurses := true, named := ["internal/bytealg.MaxLen", "unicode/utf8.first", "unicode/utf8.acceptRanges"], apart := false, laid := [("unicode/utf8.acceptRanges", laid_unicode_utf8_acceptRanges), ("unicode/utf8.first", laid_unicode_utf8_first)] }
def WordsRangesSaid : Prop := wordsRangesRow.holds Tryd.pinned (OpenSpec.ofChange wordsRangesSpec)

/-- ITS FALSE NEIGHBOUR: 'it returns false'. Refute it at one input. -/
def wordsRangesWrong : ChangeSpec := { name := "wordsRanges", fn := fun _ => fun
  | [d1, d2] => { results := [.lit (.bool false)], args := [d1, d2] }
  | _ => none }
def WordsRangesWrongFalsely : Prop := wordsRangesRow.holds Tryd.pinned (OpenSpec.ofChange wordsRangesWrong)

/-- 'railplanlaw3.WordsJoins': WHATEVER THE INPUT: true; the input reads as it did. -/
def wordsJoinsSpec : ChangeSpec := { name := "wordsJoins", fn := fun _ => fun
  | [d1, d2] => { results := [.lit (.bool true)], args := [d1, d2] }
  | _ => none }
def wordsJoinsRow : OpenClaim := { program := "ytfbpbmnlbcnanaadoor", sum := "eaed5dde2327fba77948293082d75c101005c3cabceed4ee6c6bfd5b32c6af69", func := "railplan/railplanlaw3.WordsJoins", spec := "wordsJoins", inPlace := ["internal/bytealg.IndexByteString", "internal/bytealg.IndexString", "internal/abi.NoEscape"], unfollowed := true, recurses := true, named := ["unicode/utf8.first", "unicode/utf8.acceptRanges", "internal/bytealg.MaxLen"], apart := false, laid := [("unicode/utf8.acceptRanges", laid_unicode_utf8_acceptRanges), ("unicode/utf8.first", laid_unicode_utf8_first)] }
def WordsJoinsSaid : Prop := wordsJoinsRow.holds Tryd.pinned (OpenSpec.ofChange wordsJoinsSpec)

/-- ITS FALSE NEIGHBOUR: 'it returns false'. Refute it at one input. -/
def wordsJoinsWrong : ChangeSpec := { name := "wordsJoins", fn := fun _ => fun
  | [d1, d2] => { results := [.lit (.bool false)], args := [d1, d2] }
  | _ => none }
def WordsJoinsWrongFalsely : Prop := wordsJoinsRow.holds Tryd.pinned (OpenSpec.ofChange wordsJoinsWrong)

/-- 'railplanlaw3.WordsRoundTrip': WHATEVER THE INPUT: true; the input reads as it did. -/
def wordsRoundTripSpec : ChangeSpec := { name := "wordsRoundTrip", fn := fun _ => fun
  | [d1, d2] => { results := [.lit (.bool true)], args := [d1, d2] }
  | _ => none }
def wordsRoundTripRow : OpenClaim := { program := "ytfbpbmnlbcnanaadoor", sum := "eaed5dde2327fba77948293082d75c101005c3cabceed4ee6c6bfd5b32c6af69", func := "railplan/railplanlaw3.WordsRoundTrip", spec := "wordsRoundTrip", inPlace := ["internal/abi.NoEscape", "internal/bytealg.IndexByteString", "internal/bytealg.IndexString"], unfollowed := true, recurses := true, named := ["unicode/utf8.first", "unicode/utf8.acceptRanges", "internal/bytealg.MaxLen"], apart := false, laid := [("unicode/utf8.acceptRanges", laid_unicode_utf8_acceptRanges), ("unicode/utf8.first", laid_unicode_utf8_first)] }
def WordsRoundTripSaid : Prop := wordsRoundTripRow.holds Tryd.pinned (OpenSpec.ofChange wordsRoundTripSpec)

/-- ITS FALSE NEIGHBOUR: 'it returns false'. Refute it at one input. -/
def wordsRoundTripWrong : ChangeSpec := { name := "wordsRoundTrip", fn := fun _ => fun
  | [d1, d2] => { results := [.lit (.bool false)], args := [d1, d2] }
  | _ => none }
def WordsRoundTripWrongFalsely : Prop := wordsRoundTripRow.holds Tryd.pinned (OpenSpec.ofChange wordsRoundTripWrong)

/- THE SECOND FORM. 'bulk': how many values and letters a reading holds, each counted each time it is reached (what is shared counts as often as it is met; a slice's spare places count too). A statement '..UptoSaid' is the law's where the arguments, and the package variables that the reading takes, are together of bulk at most 1048576: NARROWER than '..Said'. Prove '..Said' where nothing that the law and all that it calls make is longer than what came in: it says more and counts as full. Else prove '..UptoSaid'. A law counts once. -/
mutual
def uptoBulk {H : Type} : DataW H → Nat
  | .lit (.string bytes) => bytes.length + 1
  | .lit _ => 1
  | .nil => 1
  | .ptr d => uptoBulk d + 1
  | .slice elems spare => uptoBulkAll elems + uptoBulkAll spare + 1
  | .agg parts => uptoBulkAll parts + 1
  | .iface _ d => uptoBulk d + 1
  | .map entries => uptoBulkEntries entries + 1
  | .held _ => 1
def uptoBulkAll {H : Type} : List (DataW H) → Nat
  | [] => 0
  | d :: r => uptoBulk d + uptoBulkAll r
def uptoBulkEntries {H : Type} : List (Lit × DataW H) → Nat
  | [] => 0
  | x :: r => uptoBulkEntry x + uptoBulkEntries r
def uptoBulkEntry {H : Type} : Lit × DataW H → Nat
  | (.string bytes, d) => bytes.length + uptoBulk d + 1
  | (_, d) => uptoBulk d + 1
 end
def uptoSmall : (H : Type) → List (DataW H) → Bool := fun _ ds => decide (uptoBulkAll ds ≤ 1048576)
def OpenSpec.upto (s : _root_.Go.ChangeSpec) : _root_.Go.OpenSpec := { _root_.Go.OpenSpec.ofChange s with cond := some uptoSmall }

/-- 'railplanlaw3.WordsExamples', WHERE WHAT IT READS IS OF BULK AT MOST 1048576: true; the input reads as it did. -/
def wordsExamplesUptoRow : OpenClaim := { program := "ytfbpbmnlbcnanaadoor", sum := "eaed5dde2327fba77948293082d75c101005c3cabceed4ee6c6bfd5b32c6af69", func := "railplan/railplanlaw3.WordsExamples", spec := "wordsExamples", inPlace := ["internal/bytealg.IndexByteString", "internal/bytealg.IndexString"], unfollowed := true, recurses := true, named := ["unicode/utf8.first", "unicode/utf8.acceptRanges", "internal/bytealg.MaxLen"], apart := false, laid := [("unicode/utf8.acceptRanges", laid_unicode_utf8_acceptRanges), ("unicode/utf8.first", laid_unicode_utf8_first)], narrowed := true }
def WordsExamplesUptoSaid : Prop := wordsExamplesUptoRow.holds Tryd.pinned (OpenSpec.upto wordsExamplesSpec)

/-- 'railplanlaw3.WordsNames', WHERE WHAT IT READS IS OF BULK AT MOST 1048576: true; the input reads as it did. -/
def wordsNamesUptoRow : OpenClaim := { program := "ytfbpbmnlbcnanaadoor", sum := "eaed5dde2327fba77948293082d75c101005c3cabceed4ee6c6bfd5b32c6af69", func := "railplan/railplanlaw3.WordsNames", spec := "wordsNames", inPlace := ["internal/bytealg.IndexByteString", "internal/bytealg.IndexString"], unfollowed := true, recurses := true, named := ["unicode/utf8.first", "unicode/utf8.acceptRanges", "internal/bytealg.MaxLen"], apart := false, laid := [("unicode/utf8.acceptRanges", laid_unicode_utf8_acceptRanges), ("unicode/utf8.first", laid_unicode_utf8_first)], narrowed := true }
def WordsNamesUptoSaid : Prop := wordsNamesUptoRow.holds Tryd.pinned (OpenSpec.upto wordsNamesSpec)

/-- 'railplanlaw3.WordsNumberRoundTrip', WHERE WHAT IT READS IS OF BULK AT MOST 1048576: true; the input reads as it did. -/
def wordsNumberRoundTripUptoRow : OpenClaim := { program := "ytfbpbmnlbcnanaadoor", sum := "eaed5dde2327fba77948293082d75c101005c3cabceed4ee6c6bfd5b32c6af69", func := "railplan/railplanlaw3.WordsNumberRoundTrip", spec := "wordsNumberRoundTrip", inPlace := ["internal/bytealg.IndexByteString", "internal/bytealg.IndexString"], unfollowed := true, recurses := true, named := ["unicode/utf8.first", "unicode/utf8.acceptRanges", "internal/bytealg.MaxLen"], apart := false, laid := [("unicode/utf8.acceptRanges", laid_unicode_utf8_acceptRanges), ("unicode/utf8.first", laid_unicode_utf8_first)], narrowed := true }
def WordsNumberRoundTripUptoSaid : Prop := wordsNumberRoundTripUptoRow.holds Tryd.pinned (OpenSpec.upto wordsNumberRoundTripSpec)

/-- 'railplanlaw3.WordsLines', WHERE WHAT IT READS IS OF BULK AT MOST 1048576: true; the input reads as it did. -/
def wordsLinesUptoRow : OpenClaim := { program := "ytfbpbmnlbcnanaadoor", sum := "eaed5dde2327fba77948293082d75c101005c3cabceed4ee6c6bfd5b32c6af69", func := "railplan/railplanlaw3.WordsLines", spec := "wordsLines", inPlace := ["internal/bytealg.IndexByteString", "internal/bytealg.IndexString"], unfollowed := true, recurses := true, named := ["unicode/utf8.first", "unicode/utf8.acceptRanges", "internal/bytealg.MaxLen"], apart := false, laid := [("unicode/utf8.acceptRanges", laid_unicode_utf8_acceptRanges), ("unicode/utf8.first", laid_unicode_utf8_first)], narrowed := true }
def WordsLinesUptoSaid : Prop := wordsLinesUptoRow.holds Tryd.pinned (OpenSpec.upto wordsLinesSpec)

/-- 'railplanlaw3.WordsLimits', WHERE WHAT IT READS IS OF BULK AT MOST 1048576: true; the input reads as it did. -/
def wordsLimitsUptoRow : OpenClaim := { program := "ytfbpbmnlbcnanaadoor", sum := "eaed5dde2327fba77948293082d75c101005c3cabceed4ee6c6bfd5b32c6af69", func := "railplan/railplanlaw3.WordsLimits", spec := "wordsLimits", inPlace := ["internal/bytealg.IndexByteString", "internal/bytealg.IndexString"], unfollowed := true, recurses := true, named := ["unicode/utf8.first", "unicode/utf8.acceptRanges", "internal/bytealg.MaxLen"], apart := false, laid := [("unicode/utf8.acceptRanges", laid_unicode_utf8_acceptRanges), ("unicode/utf8.first", laid_unicode_utf8_first)], narrowed := true }
def WordsLimitsUptoSaid : Prop := wordsLimitsUptoRow.holds Tryd.pinned (OpenSpec.upto wordsLimitsSpec)

/-- 'railplanlaw3.WordsCommentsAndSpace', WHERE WHAT IT READS IS OF BULK AT MOST 1048576: true; the input reads as it did. -/
def wordsCommentsAndSpaceUptoRow : OpenClaim := { program := "ytfbpbmnlbcnanaadoor", sum := "eaed5dde2327fba77948293082d75c101005c3cabceed4ee6c6bfd5b32c6af69", func := "railplan/railplanlaw3.WordsCommentsAndSpace", spec := "wordsCommentsAndSpace", inPlace := ["internal/bytealg.IndexByteString", "internal/bytealg.IndexString"], unfollowed := true, recurses := true, named := ["unicode/utf8.first", "unicode/utf8.acceptRanges", "internal/bytealg.MaxLen"], apart := false, laid := [("unicode/utf8.acceptRanges", laid_unicode_utf8_acceptRanges), ("unicode/utf8.first", laid_unicode_utf8_first)], narrowed := true }
def WordsCommentsAndSpaceUptoSaid : Prop := wordsCommentsAndSpaceUptoRow.holds Tryd.pinned (OpenSpec.upto wordsCommentsAndSpaceSpec)

/-- 'railplanlaw3.WordsNumbers', WHERE WHAT IT READS IS OF BULK AT MOST 1048576: true; the input reads as it did. -/
def wordsNumbersUptoRow : OpenClaim := { program := "ytfbpbmnlbcnanaadoor", sum := "eaed5dde2327fba77948293082d75c101005c3cabceed4ee6c6bfd5b32c6af69", func := "railplan/railplanlaw3.WordsNumbers", spec := "wordsNumbers", inPlace := ["internal/bytealg.IndexByteString", "internal/bytealg.IndexString"], unfollowed := true, recurses := true, named := ["internal/bytealg.MaxLen", "unicode/utf8.first", "unicode/utf8.acceptRanges"], apart := false, laid := [("unicode/utf8.acceptRanges", laid_unicode_utf8_acceptRanges), ("unicode/utf8.first", laid_unicode_utf8_first)], narrowed := true }
def WordsNumbersUptoSaid : Prop := wordsNumbersUptoRow.holds Tryd.pinned (OpenSpec.upto wordsNumbersSpec)

/-- 'railplanlaw3.WordsRanges', WHERE WHAT IT READS IS OF BULK AT MOST 1048576: true; the input reads as it did. -/
def wordsRangesUptoRow : OpenClaim := { program := "ytfbpbmnlbcnanaadoor", sum := "eaed5dde2327fba77948293082d75c101005c3cabceed4ee6c6bfd5b32c6af69", func := "railplan/railplanlaw3.WordsRanges", spec := "wordsRanges", inPlace := ["internal/bytealg.IndexByteString", "internal/bytealg.IndexString"], unfollowed := true, recurses := true, named := ["internal/bytealg.MaxLen", "unicode/utf8.first", "unicode/utf8.acceptRanges"], apart := false, laid := [("unicode/utf8.acceptRanges", laid_unicode_utf8_acceptRanges), ("unicode/utf8.first", laid_unicode_utf8_first)], narrowed := true }
def WordsRangesUptoSaid : Prop := wordsRangesUptoRow.holds Tryd.pinned (OpenSpec.upto wordsRangesSpec)

/-- 'railplanlaw3.WordsJoins', WHERE WHAT IT READS IS OF BULK AT MOST 1048576: true; the input reads as it did. -/
def wordsJoinsUptoRow : OpenClaim := { program := "ytfbpbmnlbcnanaadoor", sum := "eaed5dde2327fba77948293082d75c101005c3cabceed4ee6c6bfd5b32c6af69", func := "railplan/railplanlaw3.WordsJoins", spec := "wordsJoins", inPlace := ["internal/bytealg.IndexByteString", "internal/bytealg.IndexString", "internal/abi.NoEscape"], unfollowed := true, recurses := true, named := ["unicode/utf8.first", "unicode/utf8.acceptRanges", "internal/bytealg.MaxLen"], apart := false, laid := [("unicode/utf8.acceptRanges", laid_unicode_utf8_acceptRanges), ("unicode/utf8.first", laid_unicode_utf8_first)], narrowed := true }
def WordsJoinsUptoSaid : Prop := wordsJoinsUptoRow.holds Tryd.pinned (OpenSpec.upto wordsJoinsSpec)

/-- 'railplanlaw3.WordsRoundTrip', WHERE WHAT IT READS IS OF BULK AT MOST 1048576: true; the input reads as it did. -/
def wordsRoundTripUptoRow : OpenClaim := { program := "ytfbpbmnlbcnanaadoor", sum := "eaed5dde2327fba77948293082d75c101005c3cabceed4ee6c6bfd5b32c6af69", func := "railplan/railplanlaw3.WordsRoundTrip", spec := "wordsRoundTrip", inPlace := ["internal/abi.NoEscape", "internal/bytealg.IndexByteString", "internal/bytealg.IndexString"], unfollowed := true, recurses := true, named := ["unicode/utf8.first", "unicode/utf8.acceptRanges", "internal/bytealg.MaxLen"], apart := false, laid := [("unicode/utf8.acceptRanges", laid_unicode_utf8_acceptRanges), ("unicode/utf8.first", laid_unicode_utf8_first)], narrowed := true }
def WordsRoundTripUptoSaid : Prop := wordsRoundTripUptoRow.holds Tryd.pinned (OpenSpec.upto wordsRoundTripSpec)

end Rows
end Go.Proofs.YtfbpbmnlbcnanaaDoor

/-
  DERIVED. GIVEN WITH THE SEED: THE CARDS: each row of YtfbpbmnlbcnanaaDoorRows.lean that lists a variable, with what it lists TIED to the program's text (the seventh form; the later family's looks); each row that meets fmt, with fmt's text TOLD by the authors' own Lean function (tested against real Go, not proved from fmt's source: count such statements apart). THE CARD IS WHAT COUNTS. Prove the row's statement (the work); the ties are given (YtfbpbmnlbcnanaaDoorTie.lean); close each card by the builder's one call (the guide's Derived/Test/ToyasCard.lean, 'card_holds'). Laid BY PROGRAM, IN A SANDBOX (cutbox-door.mjs). By AI agents, Wed Nov 11 2026. No macro, syntax, notation, axiom, sorry.
-/
import Derived.Test.YtfbpbmnlbcnanaaDoorRows
import GoSem.ClaimSeven
namespace Go.Proofs.YtfbpbmnlbcnanaaDoor
namespace Rows

/-- THE TIED CARD OF 'railplanlaw3.WordsExamples'. -/
def wordsExamplesCard : Claim7 := { stood := { row := wordsExamplesRow, standIns := [], harness := (true, "6eb957dfa804dcfb5da465436a3f337743a8be2025f45a78736720700ee43b38"), looks := false }, kinds := [], alts := [], laidByText := true, laidKinds := [.data, .pinned], laidTests := true, laidLooks := .later }
def WordsExamplesCardSaid : Prop := Claim7.holds Tryd.pinned (.plain (OpenSpec.ofChange wordsExamplesSpec)) wordsExamplesCard

/-- THE TIED CARD OF 'railplanlaw3.WordsNames'. -/
def wordsNamesCard : Claim7 := { stood := { row := wordsNamesRow, standIns := [], harness := (true, "6eb957dfa804dcfb5da465436a3f337743a8be2025f45a78736720700ee43b38"), looks := false }, kinds := [], alts := [], laidByText := true, laidKinds := [.data, .pinned], laidTests := true, laidLooks := .later }
def WordsNamesCardSaid : Prop := Claim7.holds Tryd.pinned (.plain (OpenSpec.ofChange wordsNamesSpec)) wordsNamesCard

/-- THE TIED CARD OF 'railplanlaw3.WordsNumberRoundTrip'. -/
def wordsNumberRoundTripCard : Claim7 := { stood := { row := wordsNumberRoundTripRow, standIns := [], harness := (true, "6eb957dfa804dcfb5da465436a3f337743a8be2025f45a78736720700ee43b38"), looks := false }, kinds := [], alts := [], laidByText := true, laidKinds := [.data, .pinned], laidTests := true, laidLooks := .later }
def WordsNumberRoundTripCardSaid : Prop := Claim7.holds Tryd.pinned (.plain (OpenSpec.ofChange wordsNumberRoundTripSpec)) wordsNumberRoundTripCard

/-- THE TIED CARD OF 'railplanlaw3.WordsLines'. -/
def wordsLinesCard : Claim7 := { stood := { row := wordsLinesRow, standIns := [], harness := (true, "6eb957dfa804dcfb5da465436a3f337743a8be2025f45a78736720700ee43b38"), looks := false }, kinds := [], alts := [], laidByText := true, laidKinds := [.data, .pinned], laidTests := true, laidLooks := .later }
def WordsLinesCardSaid : Prop := Claim7.holds Tryd.pinned (.plain (OpenSpec.ofChange wordsLinesSpec)) wordsLinesCard

/-- THE TIED CARD OF 'railplanlaw3.WordsLimits'. -/
def wordsLimitsCard : Claim7 := { stood := { row := wordsLimitsRow, standIns := [], harness := (true, "6eb957dfa804dcfb5da465436a3f337743a8be2025f45a78736720700ee43b38"), looks := false }, kinds := [], alts := [], laidByText := true, laidKinds := [.data, .pinned], laidTests := true, laidLooks := .later }
def WordsLimitsCardSaid : Prop := Claim7.holds Tryd.pinned (.plain (OpenSpec.ofChange wordsLimitsSpec)) wordsLimitsCard

/-- THE TIED CARD OF 'railplanlaw3.WordsCommentsAndSpace'. -/
def wordsCommentsAndSpaceCard : Claim7 := { stood := { row := wordsCommentsAndSpaceRow, standIns := [], harness := (true, "6eb957dfa804dcfb5da465436a3f337743a8be2025f45a78736720700ee43b38"), looks := false }, kinds := [], alts := [], laidByText := true, laidKinds := [.data, .pinned], laidTests := true, laidLooks := .later }
def WordsCommentsAndSpaceCardSaid : Prop := Claim7.holds Tryd.pinned (.plain (OpenSpec.ofChange wordsCommentsAndSpaceSpec)) wordsCommentsAndSpaceCard

/-- THE TIED CARD OF 'railplanlaw3.WordsNumbers'. -/
def wordsNumbersCard : Claim7 := { stood := { row := wordsNumbersRow, standIns := [], harness := (true, "6eb957dfa804dcfb5da465436a3f337743a8be2025f45a78736720700ee43b38"), looks := false }, kinds := [], alts := [], laidByText := true, laidKinds := [.data, .pinned], laidTests := true, laidLooks := .later }
def WordsNumbersCardSaid : Prop := Claim7.holds Tryd.pinned (.plain (OpenSpec.ofChange wordsNumbersSpec)) wordsNumbersCard

/-- THE TIED CARD OF 'railplanlaw3.WordsRanges'. -/
def wordsRangesCard : Claim7 := { stood := { row := wordsRangesRow, standIns := [], harness := (true, "6eb957dfa804dcfb5da465436a3f337743a8be2025f45a78736720700ee43b38"), looks := false }, kinds := [], alts := [], laidByText := true, laidKinds := [.data, .pinned], laidTests := true, laidLooks := .later }
def WordsRangesCardSaid : Prop := Claim7.holds Tryd.pinned (.plain (OpenSpec.ofChange wordsRangesSpec)) wordsRangesCard

/-- THE TIED CARD OF 'railplanlaw3.WordsJoins'. -/
def wordsJoinsCard : Claim7 := { stood := { row := wordsJoinsRow, standIns := [], harness := (true, "6eb957dfa804dcfb5da465436a3f337743a8be2025f45a78736720700ee43b38"), looks := false }, kinds := [], alts := [], laidByText := true, laidKinds := [.data, .pinned], laidTests := true, laidLooks := .later }
def WordsJoinsCardSaid : Prop := Claim7.holds Tryd.pinned (.plain (OpenSpec.ofChange wordsJoinsSpec)) wordsJoinsCard

/-- THE TIED CARD OF 'railplanlaw3.WordsRoundTrip'. -/
def wordsRoundTripCard : Claim7 := { stood := { row := wordsRoundTripRow, standIns := [], harness := (true, "6eb957dfa804dcfb5da465436a3f337743a8be2025f45a78736720700ee43b38"), looks := false }, kinds := [], alts := [], laidByText := true, laidKinds := [.data, .pinned], laidTests := true, laidLooks := .later }
def WordsRoundTripCardSaid : Prop := Claim7.holds Tryd.pinned (.plain (OpenSpec.ofChange wordsRoundTripSpec)) wordsRoundTripCard

/-- THE SECOND FORM's CARD OF 'railplanlaw3.WordsExamples'. -/
def wordsExamplesUptoCard : Claim7 := { stood := { row := wordsExamplesUptoRow, standIns := [], harness := (true, "6eb957dfa804dcfb5da465436a3f337743a8be2025f45a78736720700ee43b38"), looks := false }, kinds := [], alts := [], laidByText := true, laidKinds := [.data, .pinned], laidTests := true, laidLooks := .later }
def WordsExamplesUptoCardSaid : Prop := Claim7.holds Tryd.pinned (.plain (OpenSpec.upto wordsExamplesSpec)) wordsExamplesUptoCard

/-- THE SECOND FORM's CARD OF 'railplanlaw3.WordsNames'. -/
def wordsNamesUptoCard : Claim7 := { stood := { row := wordsNamesUptoRow, standIns := [], harness := (true, "6eb957dfa804dcfb5da465436a3f337743a8be2025f45a78736720700ee43b38"), looks := false }, kinds := [], alts := [], laidByText := true, laidKinds := [.data, .pinned], laidTests := true, laidLooks := .later }
def WordsNamesUptoCardSaid : Prop := Claim7.holds Tryd.pinned (.plain (OpenSpec.upto wordsNamesSpec)) wordsNamesUptoCard

/-- THE SECOND FORM's CARD OF 'railplanlaw3.WordsNumberRoundTrip'. -/
def wordsNumberRoundTripUptoCard : Claim7 := { stood := { row := wordsNumberRoundTripUptoRow, standIns := [], harness := (true, "6eb957dfa804dcfb5da465436a3f337743a8be2025f45a78736720700ee43b38"), looks := false }, kinds := [], alts := [], laidByText := true, laidKinds := [.data, .pinned], laidTests := true, laidLooks := .later }
def WordsNumberRoundTripUptoCardSaid : Prop := Claim7.holds Tryd.pinned (.plain (OpenSpec.upto wordsNumberRoundTripSpec)) wordsNumberRoundTripUptoCard

/-- THE SECOND FORM's CARD OF 'railplanlaw3.WordsLines'. -/
def wordsLinesUptoCard : Claim7 := { stood := { row := wordsLinesUptoRow, standIns := [], harness := (true, "6eb957dfa804dcfb5da465436a3f337743a8be2025f45a78736720700ee43b38"), looks := false }, kinds := [], alts := [], laidByText := true, laidKinds := [.data, .pinned], laidTests := true, laidLooks := .later }
def WordsLinesUptoCardSaid : Prop := Claim7.holds Tryd.pinned (.plain (OpenSpec.upto wordsLinesSpec)) wordsLinesUptoCard

/-- THE SECOND FORM's CARD OF 'railplanlaw3.WordsLimits'. -/
def wordsLimitsUptoCard : Claim7 := { stood := { row := wordsLimitsUptoRow, standIns := [], harness := (true, "6eb957dfa804dcfb5da465436a3f337743a8be2025f45a78736720700ee43b38"), looks := false }, kinds := [], alts := [], laidByText := true, laidKinds := [.data, .pinned], laidTests := true, laidLooks := .later }
def WordsLimitsUptoCardSaid : Prop := Claim7.holds Tryd.pinned (.plain (OpenSpec.upto wordsLimitsSpec)) wordsLimitsUptoCard

/-- THE SECOND FORM's CARD OF 'railplanlaw3.WordsCommentsAndSpace'. -/
def wordsCommentsAndSpaceUptoCard : Claim7 := { stood := { row := wordsCommentsAndSpaceUptoRow, standIns := [], harness := (true, "6eb957dfa804dcfb5da465436a3f337743a8be2025f45a78736720700ee43b38"), looks := false }, kinds := [], alts := [], laidByText := true, laidKinds := [.data, .pinned], laidTests := true, laidLooks := .later }
def WordsCommentsAndSpaceUptoCardSaid : Prop := Claim7.holds Tryd.pinned (.plain (OpenSpec.upto wordsCommentsAndSpaceSpec)) wordsCommentsAndSpaceUptoCard

/-- THE SECOND FORM's CARD OF 'railplanlaw3.WordsNumbers'. -/
def wordsNumbersUptoCard : Claim7 := { stood := { row := wordsNumbersUptoRow, standIns := [], harness := (true, "6eb957dfa804dcfb5da465436a3f337743a8be2025f45a78736720700ee43b38"), looks := false }, kinds := [], alts := [], laidByText := true, laidKinds := [.data, .pinned], laidTests := true, laidLooks := .later }
def WordsNumbersUptoCardSaid : Prop := Claim7.holds Tryd.pinned (.plain (OpenSpec.upto wordsNumbersSpec)) wordsNumbersUptoCard

/-- THE SECOND FORM's CARD OF 'railplanlaw3.WordsRanges'. -/
def wordsRangesUptoCard : Claim7 := { stood := { row := wordsRangesUptoRow, standIns := [], harness := (true, "6eb957dfa804dcfb5da465436a3f337743a8be2025f45a78736720700ee43b38"), looks := false }, kinds := [], alts := [], laidByText := true, laidKinds := [.data, .pinned], laidTests := true, laidLooks := .later }
def WordsRangesUptoCardSaid : Prop := Claim7.holds Tryd.pinned (.plain (OpenSpec.upto wordsRangesSpec)) wordsRangesUptoCard

/-- THE SECOND FORM's CARD OF 'railplanlaw3.WordsJoins'. -/
def wordsJoinsUptoCard : Claim7 := { stood := { row := wordsJoinsUptoRow, standIns := [], harness := (true, "6eb957dfa804dcfb5da465436a3f337743a8be2025f45a78736720700ee43b38"), looks := false }, kinds := [], alts := [], laidByText := true, laidKinds := [.data, .pinned], laidTests := true, laidLooks := .later }
def WordsJoinsUptoCardSaid : Prop := Claim7.holds Tryd.pinned (.plain (OpenSpec.upto wordsJoinsSpec)) wordsJoinsUptoCard

/-- THE SECOND FORM's CARD OF 'railplanlaw3.WordsRoundTrip'. -/
def wordsRoundTripUptoCard : Claim7 := { stood := { row := wordsRoundTripUptoRow, standIns := [], harness := (true, "6eb957dfa804dcfb5da465436a3f337743a8be2025f45a78736720700ee43b38"), looks := false }, kinds := [], alts := [], laidByText := true, laidKinds := [.data, .pinned], laidTests := true, laidLooks := .later }
def WordsRoundTripUptoCardSaid : Prop := Claim7.holds Tryd.pinned (.plain (OpenSpec.upto wordsRoundTripSpec)) wordsRoundTripUptoCard
end Rows
end Go.Proofs.YtfbpbmnlbcnanaaDoor

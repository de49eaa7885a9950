/-
  DERIVED. GIVEN WITH THE SEED: THE CARDS: each row of YtcalibhfgdncaaaGreatDoorRows.lean that lists a variable, with what it lists TIED to the program's text (the seventh form; the later family's looks); each row that meets fmt, with fmt's text TOLD by the authors' own Lean function (tested against real Go, not proved from fmt's source: count such statements apart). THE CARD IS WHAT COUNTS. Prove the row's statement (the work); the ties are given (YtcalibhfgdncaaaGreatDoorTie.lean); close each card by the builder's one call (the guide's Derived/Test/ToyasCard.lean, 'card_holds'). Laid BY PROGRAM, IN A SANDBOX (cutbox-door.mjs). By AI agents, Wed Nov 11 2026. No macro, syntax, notation, axiom, sorry.
-/
import Derived.Test.YtcalibhfgdncaaaGreatDoorRows
import GoSem.ClaimSeven
namespace Go.Proofs.YtcalibhfgdncaaaGreatDoor
namespace Rows

/-- THE TIED CARD OF 'railplanlaw10.PlanRaw'. -/
def planRawCard : Claim7 := { stood := { row := planRawRow, standIns := [], harness := (true, "bc1b1f80010c935809050e057520f4a8b699379f5b63834e01b0b2074b20cd16"), looks := true }, kinds := [], alts := [], laidByText := true, laidKinds := [.data, .data, .data], laidTests := true, laidLooks := .later }
def PlanRawCardSaid : Prop := Claim7.holds Tryz.pinned (.plain (OpenSpec.ofChange planRawSpec)) planRawCard

/-- THE TIED CARD OF 'railplanlaw10.PlanGenerated'. -/
def planGeneratedCard : Claim7 := { stood := { row := planGeneratedRow, standIns := [], harness := (true, "bc1b1f80010c935809050e057520f4a8b699379f5b63834e01b0b2074b20cd16"), looks := true }, kinds := [], alts := [], laidByText := true, laidKinds := [.data, .data, .data], laidTests := true, laidLooks := .later }
def PlanGeneratedCardSaid : Prop := Claim7.holds Tryz.pinned (.plain (OpenSpec.ofChange planGeneratedSpec)) planGeneratedCard

/-- THE TIED CARD OF 'railplanlaw10.PlanLineOrder'. -/
def planLineOrderCard : Claim7 := { stood := { row := planLineOrderRow, standIns := [], harness := (true, "bc1b1f80010c935809050e057520f4a8b699379f5b63834e01b0b2074b20cd16"), looks := true }, kinds := [], alts := [], laidByText := true, laidKinds := [.data, .pinned], laidTests := true, laidLooks := .later }
def PlanLineOrderCardSaid : Prop := Claim7.holds Tryz.pinned (.plain (OpenSpec.ofChange planLineOrderSpec)) planLineOrderCard

/-- THE TIED CARD OF 'railplanlaw10.PlanExamples'. -/
def planExamplesCard : Claim7 := { stood := { row := planExamplesRow, standIns := [], harness := (true, "bc1b1f80010c935809050e057520f4a8b699379f5b63834e01b0b2074b20cd16"), looks := true }, kinds := [], alts := [], laidByText := true, laidKinds := [.data, .data, .data, .data, .pinned], laidTests := true, laidLooks := .later }
def PlanExamplesCardSaid : Prop := Claim7.holds Tryz.pinned (.plain (OpenSpec.ofChange planExamplesSpec)) planExamplesCard

/-- THE TIED CARD OF 'railplanlaw10.PlanLayoutMatters'. -/
def planLayoutMattersCard : Claim7 := { stood := { row := planLayoutMattersRow, standIns := [], harness := (true, "bc1b1f80010c935809050e057520f4a8b699379f5b63834e01b0b2074b20cd16"), looks := true }, kinds := [], alts := [], laidByText := true, laidKinds := [.data, .data, .data, .data, .pinned], laidTests := true, laidLooks := .later }
def PlanLayoutMattersCardSaid : Prop := Claim7.holds Tryz.pinned (.plain (OpenSpec.ofChange planLayoutMattersSpec)) planLayoutMattersCard

/-- THE TIED CARD OF 'railplanlaw10.PlanRoundTrip'. -/
def planRoundTripCard : Claim7 := { stood := { row := planRoundTripRow, standIns := [], harness := (true, "bc1b1f80010c935809050e057520f4a8b699379f5b63834e01b0b2074b20cd16"), looks := true }, kinds := [], alts := [], laidByText := true, laidKinds := [.data, .data, .data, .data, .pinned], laidTests := true, laidLooks := .later }
def PlanRoundTripCardSaid : Prop := Claim7.holds Tryz.pinned (.plain (OpenSpec.ofChange planRoundTripSpec)) planRoundTripCard

/-- THE SECOND FORM's CARD OF 'railplanlaw10.PlanRaw'. -/
def planRawUptoCard : Claim7 := { stood := { row := planRawUptoRow, standIns := [], harness := (true, "bc1b1f80010c935809050e057520f4a8b699379f5b63834e01b0b2074b20cd16"), looks := true }, kinds := [], alts := [], laidByText := true, laidKinds := [.data, .data, .data], laidTests := true, laidLooks := .later }
def PlanRawUptoCardSaid : Prop := Claim7.holds Tryz.pinned (.plain (OpenSpec.upto planRawSpec)) planRawUptoCard

/-- THE SECOND FORM's CARD OF 'railplanlaw10.PlanGenerated'. -/
def planGeneratedUptoCard : Claim7 := { stood := { row := planGeneratedUptoRow, standIns := [], harness := (true, "bc1b1f80010c935809050e057520f4a8b699379f5b63834e01b0b2074b20cd16"), looks := true }, kinds := [], alts := [], laidByText := true, laidKinds := [.data, .data, .data], laidTests := true, laidLooks := .later }
def PlanGeneratedUptoCardSaid : Prop := Claim7.holds Tryz.pinned (.plain (OpenSpec.upto planGeneratedSpec)) planGeneratedUptoCard

/-- THE SECOND FORM's CARD OF 'railplanlaw10.PlanLineOrder'. -/
def planLineOrderUptoCard : Claim7 := { stood := { row := planLineOrderUptoRow, standIns := [], harness := (true, "bc1b1f80010c935809050e057520f4a8b699379f5b63834e01b0b2074b20cd16"), looks := true }, kinds := [], alts := [], laidByText := true, laidKinds := [.data, .pinned], laidTests := true, laidLooks := .later }
def PlanLineOrderUptoCardSaid : Prop := Claim7.holds Tryz.pinned (.plain (OpenSpec.upto planLineOrderSpec)) planLineOrderUptoCard

/-- THE SECOND FORM's CARD OF 'railplanlaw10.PlanExamples'. -/
def planExamplesUptoCard : Claim7 := { stood := { row := planExamplesUptoRow, standIns := [], harness := (true, "bc1b1f80010c935809050e057520f4a8b699379f5b63834e01b0b2074b20cd16"), looks := true }, kinds := [], alts := [], laidByText := true, laidKinds := [.data, .data, .data, .data, .pinned], laidTests := true, laidLooks := .later }
def PlanExamplesUptoCardSaid : Prop := Claim7.holds Tryz.pinned (.plain (OpenSpec.upto planExamplesSpec)) planExamplesUptoCard

/-- THE SECOND FORM's CARD OF 'railplanlaw10.PlanLayoutMatters'. -/
def planLayoutMattersUptoCard : Claim7 := { stood := { row := planLayoutMattersUptoRow, standIns := [], harness := (true, "bc1b1f80010c935809050e057520f4a8b699379f5b63834e01b0b2074b20cd16"), looks := true }, kinds := [], alts := [], laidByText := true, laidKinds := [.data, .data, .data, .data, .pinned], laidTests := true, laidLooks := .later }
def PlanLayoutMattersUptoCardSaid : Prop := Claim7.holds Tryz.pinned (.plain (OpenSpec.upto planLayoutMattersSpec)) planLayoutMattersUptoCard

/-- THE SECOND FORM's CARD OF 'railplanlaw10.PlanRoundTrip'. -/
def planRoundTripUptoCard : Claim7 := { stood := { row := planRoundTripUptoRow, standIns := [], harness := (true, "bc1b1f80010c935809050e057520f4a8b699379f5b63834e01b0b2074b20cd16"), looks := true }, kinds := [], alts := [], laidByText := true, laidKinds := [.data, .data, .data, .data, .pinned], laidTests := true, laidLooks := .later }
def PlanRoundTripUptoCardSaid : Prop := Claim7.holds Tryz.pinned (.plain (OpenSpec.upto planRoundTripSpec)) planRoundTripUptoCard
end Rows
end Go.Proofs.YtcalibhfgdncaaaGreatDoor

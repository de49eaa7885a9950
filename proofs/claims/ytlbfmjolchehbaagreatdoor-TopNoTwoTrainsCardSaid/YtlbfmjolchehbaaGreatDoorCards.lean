/-
  DERIVED. GIVEN WITH THE SEED: THE CARDS: each row of YtlbfmjolchehbaaGreatDoorRows.lean that lists a variable, with what it lists TIED to the program's text (the seventh form; the later family's looks); each row that meets fmt, with fmt's text TOLD by the authors' own Lean function (tested against real Go, not proved from fmt's source: count such statements apart). THE CARD IS WHAT COUNTS. Prove the row's statement (the work); the ties are given (YtlbfmjolchehbaaGreatDoorTie.lean); close each card by the builder's one call (the guide's Derived/Test/ToyasCard.lean, 'card_holds'). Laid BY PROGRAM, IN A SANDBOX (cutbox-door.mjs). By AI agents, Wed Nov 11 2026. No macro, syntax, notation, axiom, sorry.
-/
import Derived.Test.YtlbfmjolchehbaaGreatDoorRows
import GoSem.ClaimSeven
namespace Go.Proofs.YtlbfmjolchehbaaGreatDoor
namespace Rows

/-- THE TIED CARD OF 'railplantop.TopNoTwoTrains'. -/
def topNoTwoTrainsCard : Claim7 := { stood := { row := topNoTwoTrainsRow, standIns := [], harness := (true, "0d7878ec676a3e47c6b5639c8b95948de95a0db813cb0f1710de799e91bd33dc"), looks := true }, kinds := [], alts := [], laidByText := true, laidKinds := [.data, .data, .data, .data, .data, .pinned], laidTests := true, laidLooks := .later }
def TopNoTwoTrainsCardSaid : Prop := Claim7.holds Tryz.pinned (.plain (OpenSpec.ofChange topNoTwoTrainsSpec)) topNoTwoTrainsCard

/-- THE SECOND FORM's CARD OF 'railplantop.TopNoTwoTrains'. -/
def topNoTwoTrainsUptoCard : Claim7 := { stood := { row := topNoTwoTrainsUptoRow, standIns := [], harness := (true, "0d7878ec676a3e47c6b5639c8b95948de95a0db813cb0f1710de799e91bd33dc"), looks := true }, kinds := [], alts := [], laidByText := true, laidKinds := [.data, .data, .data, .data, .data, .pinned], laidTests := true, laidLooks := .later }
def TopNoTwoTrainsUptoCardSaid : Prop := Claim7.holds Tryz.pinned (.plain (OpenSpec.upto topNoTwoTrainsSpec)) topNoTwoTrainsUptoCard
end Rows
end Go.Proofs.YtlbfmjolchehbaaGreatDoor

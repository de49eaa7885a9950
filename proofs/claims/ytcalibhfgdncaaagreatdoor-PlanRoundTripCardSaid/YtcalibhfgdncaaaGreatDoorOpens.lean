/- What is read at the types of the program is plain data. -/
import Derived.Test.YtcalibhfgdncaaaGreatDoorTypes
import Derived.Test.YtcalibhfgdncaaaGreatDoorD11
set_option linter.all false
namespace Go.Proofs.YtcalibhfgdncaaaGreatDoor
open Go.Dc Go.RowKit
set_option maxRecDepth 10000
instance:Wf Section:=⟨fun x=>Wf.wf x.Name∧Wf.wf x.Length∧Wf.wf x.Limit∧Wf.wf x.lJ∧Wf.wf x.pQ⟩
instance:Wf Link:=⟨fun x=>Wf.wf x.A∧Wf.wf x.lg∧Wf.wf x.B∧Wf.wf x.lu∧Wf.wf x.Point∧Wf.wf x.Pos⟩
instance:Wf Layout:=⟨fun x=>Wf.wf x.aM∧Wf.wf x.aV∧Wf.wf x.Sections∧Wf.wf x.Links⟩
instance:Wf Word:=⟨fun x=>Wf.wf x.Text∧Wf.wf x.Line∧Wf.wf x.Col⟩
instance:Wf qh:=⟨fun x=>Wf.wf x.tH∧Wf.wf x.end_⟩
instance:Wf Step:=⟨fun x=>Wf.wf x.Section∧Wf.wf x.Dir⟩
instance:Wf lK:=⟨fun x=>Wf.wf x.tH∧Wf.wf x.side⟩
instance:Wf aQ:=⟨fun x=>Wf.wf x.Steps∧Wf.wf x.Overlap⟩
instance:Wf Cell:=⟨fun x=>Wf.wf x.Limit∧Wf.wf x.lJ⟩
instance:Wf bT:=⟨fun x=>Wf.wf x.l∧Wf.wf x.i⟩
instance:Wf dG:=⟨fun x=>Wf.wf x.l∧Wf.wf x.tracks∧Wf.wf x.between∧Wf.wf x.eB⟩
instance:Wf bA:=⟨fun x=>Wf.wf x.Name∧Wf.wf x.Length∧Wf.wf x.tX∧Wf.wf x.tQ∧Wf.wf x.tV⟩
instance:Wf tT:=⟨fun x=>Wf.wf x.cells∧Wf.wf x.first⟩
instance:Wf dD:=⟨fun x=>Wf.wf x.aQ∧Wf.wf x.Extra∧Wf.wf x.Min∧Wf.wf x.Max⟩
instance:Wf Line:=⟨fun x=>Wf.wf x.Name∧Wf.wf x.bA∧Wf.wf x.Weight∧Wf.wf x.bL⟩
instance:Wf Change:=⟨fun x=>Wf.wf x.jk∧Wf.wf x.kP∧Wf.wf x.kg∧Wf.wf x.mX∧Wf.wf x.Min∧Wf.wf x.Max∧Wf.wf x.Weight⟩
instance:Wf Turn:=⟨fun x=>Wf.wf x.From∧Wf.wf x.To∧Wf.wf x.Min∧Wf.wf x.Max⟩
instance:Wf Sync:=⟨fun x=>Wf.wf x.mD∧Wf.wf x.lV∧Wf.wf x.mQ∧Wf.wf x.mE∧Wf.wf x.Offset⟩
instance:Wf dB:=⟨fun x=>Wf.wf x.From∧Wf.wf x.To∧Wf.wf x.Weight⟩
instance:Wf Plan:=⟨fun x=>Wf.wf x.bR∧Wf.wf x.aU∧Wf.wf x.Routes∧Wf.wf x.Lines∧Wf.wf x.Changes∧Wf.wf x.Turns∧Wf.wf x.bq∧Wf.wf x.bg⟩
instance:Wf kC:=⟨fun x=>Wf.wf x.lines⟩
instance:Wf bO:=⟨fun x=>Wf.wf x.l∧Wf.wf x.p∧Wf.wf x.period∧Wf.wf x.w∧Wf.wf x.e⟩
instance:Wf Hop:=⟨fun x=>Wf.wf x.To∧Wf.wf x.Point∧Wf.wf x.Pos⟩
instance:Wf ab1:=⟨fun x=>Wf.wf x.l∧Wf.wf x.p∧Wf.wf x.periods⟩
end Go.Proofs.YtcalibhfgdncaaaGreatDoor

/- What is read at the types of the program is plain data. -/
import Derived.Test.YtcalibhfgdncaaaGreatDoorTypes
import Derived.Test.YtcalibhfgdncaaaGreatDoorD11
namespace Go.Proofs.YtcalibhfgdncaaaGreatDoor
open Go.Dc Go.RowKit
set_option maxRecDepth 10000
set_option linter.all false
instance:Wf Section:=⟨fun x=>Wf.wf x.Name∧Wf.wf x.Length∧Wf.wf x.Limit∧Wf.wf x.jM∧Wf.wf x.nH⟩
instance:Wf Link:=⟨fun x=>Wf.wf x.A∧Wf.wf x.dD∧Wf.wf x.B∧Wf.wf x.dN∧Wf.wf x.Point∧Wf.wf x.Pos⟩
instance:Wf Layout:=⟨fun x=>Wf.wf x.aT∧Wf.wf x.bE∧Wf.wf x.Sections∧Wf.wf x.Links⟩
instance:Wf Word:=⟨fun x=>Wf.wf x.Text∧Wf.wf x.Line∧Wf.wf x.Col⟩
instance:Wf oW:=⟨fun x=>Wf.wf x.sP∧Wf.wf x.end_⟩
instance:Wf Step:=⟨fun x=>Wf.wf x.Section∧Wf.wf x.Dir⟩
instance:Wf lW:=⟨fun x=>Wf.wf x.sP∧Wf.wf x.side⟩
instance:Wf aG:=⟨fun x=>Wf.wf x.Steps∧Wf.wf x.Overlap⟩
instance:Wf Cell:=⟨fun x=>Wf.wf x.Limit∧Wf.wf x.jM⟩
instance:Wf bN:=⟨fun x=>Wf.wf x.l∧Wf.wf x.i⟩
instance:Wf dB:=⟨fun x=>Wf.wf x.l∧Wf.wf x.tracks∧Wf.wf x.between∧Wf.wf x.jU⟩
instance:Wf aQ:=⟨fun x=>Wf.wf x.Name∧Wf.wf x.Length∧Wf.wf x.qV∧Wf.wf x.qQ∧Wf.wf x.qR⟩
instance:Wf uY:=⟨fun x=>Wf.wf x.cells∧Wf.wf x.first⟩
instance:Wf bW:=⟨fun x=>Wf.wf x.aG∧Wf.wf x.Extra∧Wf.wf x.Min∧Wf.wf x.Max⟩
instance:Wf Line:=⟨fun x=>Wf.wf x.Name∧Wf.wf x.aQ∧Wf.wf x.Weight∧Wf.wf x.bD⟩
instance:Wf Change:=⟨fun x=>Wf.wf x.fV∧Wf.wf x.iy∧Wf.wf x.iG∧Wf.wf x.kQ∧Wf.wf x.Min∧Wf.wf x.Max∧Wf.wf x.Weight⟩
instance:Wf Turn:=⟨fun x=>Wf.wf x.From∧Wf.wf x.To∧Wf.wf x.Min∧Wf.wf x.Max⟩
instance:Wf Sync:=⟨fun x=>Wf.wf x.mE∧Wf.wf x.lJ∧Wf.wf x.mM∧Wf.wf x.lV∧Wf.wf x.Offset⟩
instance:Wf bZ:=⟨fun x=>Wf.wf x.From∧Wf.wf x.To∧Wf.wf x.Weight⟩
instance:Wf Plan:=⟨fun x=>Wf.wf x.bJ∧Wf.wf x.aP∧Wf.wf x.Routes∧Wf.wf x.Lines∧Wf.wf x.Changes∧Wf.wf x.Turns∧Wf.wf x.bB∧Wf.wf x.bA⟩
instance:Wf agr:=⟨fun x=>Wf.wf x.lines⟩
instance:Wf bK:=⟨fun x=>Wf.wf x.l∧Wf.wf x.p∧Wf.wf x.period∧Wf.wf x.w∧Wf.wf x.e⟩
instance:Wf Hop:=⟨fun x=>Wf.wf x.To∧Wf.wf x.Point∧Wf.wf x.Pos⟩
instance:Wf iN:=⟨fun x=>Wf.wf x.l∧Wf.wf x.p∧Wf.wf x.periods⟩
end Go.Proofs.YtcalibhfgdncaaaGreatDoor

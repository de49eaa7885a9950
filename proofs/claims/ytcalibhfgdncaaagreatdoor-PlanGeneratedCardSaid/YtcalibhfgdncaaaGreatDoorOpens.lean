/- What is read at the types of the program is plain data. -/
import Derived.Test.YtcalibhfgdncaaaGreatDoorTypes
import Derived.Test.YtcalibhfgdncaaaGreatDoorD11
set_option linter.all false
namespace Go.Proofs.YtcalibhfgdncaaaGreatDoor
open Go.Dc Go.RowKit
set_option maxRecDepth 10000
instance:Wf Section:=⟨fun x=>Wf.wf x.Name∧Wf.wf x.Length∧Wf.wf x.Limit∧Wf.wf x.jQ∧Wf.wf x.nG⟩
instance:Wf Link:=⟨fun x=>Wf.wf x.A∧Wf.wf x.dN∧Wf.wf x.B∧Wf.wf x.dV∧Wf.wf x.Point∧Wf.wf x.Pos⟩
instance:Wf Layout:=⟨fun x=>Wf.wf x.aU∧Wf.wf x.bG∧Wf.wf x.Sections∧Wf.wf x.Links⟩
instance:Wf Word:=⟨fun x=>Wf.wf x.Text∧Wf.wf x.Line∧Wf.wf x.Col⟩
instance:Wf pG:=⟨fun x=>Wf.wf x.rX∧Wf.wf x.end_⟩
instance:Wf Step:=⟨fun x=>Wf.wf x.Section∧Wf.wf x.Dir⟩
instance:Wf mK:=⟨fun x=>Wf.wf x.rX∧Wf.wf x.side⟩
instance:Wf aO:=⟨fun x=>Wf.wf x.Steps∧Wf.wf x.Overlap⟩
instance:Wf Cell:=⟨fun x=>Wf.wf x.Limit∧Wf.wf x.jQ⟩
instance:Wf bZ:=⟨fun x=>Wf.wf x.l∧Wf.wf x.i⟩
instance:Wf dM:=⟨fun x=>Wf.wf x.l∧Wf.wf x.tracks∧Wf.wf x.between∧Wf.wf x.eX⟩
instance:Wf aH:=⟨fun x=>Wf.wf x.Name∧Wf.wf x.Length∧Wf.wf x.qB∧Wf.wf x.qy∧Wf.wf x.qz⟩
instance:Wf uP:=⟨fun x=>Wf.wf x.cells∧Wf.wf x.first⟩
instance:Wf aM:=⟨fun x=>Wf.wf x.aO∧Wf.wf x.Extra∧Wf.wf x.Min∧Wf.wf x.Max⟩
instance:Wf Line:=⟨fun x=>Wf.wf x.Name∧Wf.wf x.aH∧Wf.wf x.Weight∧Wf.wf x.aJ⟩
instance:Wf Change:=⟨fun x=>Wf.wf x.fZ∧Wf.wf x.iE∧Wf.wf x.iO∧Wf.wf x.kN∧Wf.wf x.Min∧Wf.wf x.Max∧Wf.wf x.Weight⟩
instance:Wf Turn:=⟨fun x=>Wf.wf x.From∧Wf.wf x.To∧Wf.wf x.Min∧Wf.wf x.Max⟩
instance:Wf Sync:=⟨fun x=>Wf.wf x.mJ∧Wf.wf x.lG∧Wf.wf x.mP∧Wf.wf x.lN∧Wf.wf x.Offset⟩
instance:Wf dF:=⟨fun x=>Wf.wf x.From∧Wf.wf x.To∧Wf.wf x.Weight⟩
instance:Wf Plan:=⟨fun x=>Wf.wf x.bU∧Wf.wf x.aR∧Wf.wf x.Routes∧Wf.wf x.Lines∧Wf.wf x.Changes∧Wf.wf x.Turns∧Wf.wf x.bE∧Wf.wf x.bF⟩
instance:Wf lM:=⟨fun x=>Wf.wf x.lines⟩
instance:Wf adw:=⟨fun x=>Wf.wf x.l∧Wf.wf x.p∧Wf.wf x.period∧Wf.wf x.w∧Wf.wf x.e⟩
instance:Wf Hop:=⟨fun x=>Wf.wf x.To∧Wf.wf x.Point∧Wf.wf x.Pos⟩
instance:Wf adx:=⟨fun x=>Wf.wf x.l∧Wf.wf x.p∧Wf.wf x.periods⟩
end Go.Proofs.YtcalibhfgdncaaaGreatDoor

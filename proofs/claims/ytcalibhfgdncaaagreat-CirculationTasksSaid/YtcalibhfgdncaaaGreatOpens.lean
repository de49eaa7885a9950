/- What is read at the types of the program is plain data. -/
import Derived.Test.YtcalibhfgdncaaaGreatTypes
import Derived.Test.YtcalibhfgdncaaaGreatD11
set_option linter.all false
namespace Go.Proofs.YtcalibhfgdncaaaGreat
open Go.Dc Go.RowKit
set_option maxRecDepth 10000
instance:Wf Section:=⟨fun x=>Wf.wf x.Name∧Wf.wf x.Length∧Wf.wf x.Limit∧Wf.wf x.kr∧Wf.wf x.nN⟩
instance:Wf Link:=⟨fun x=>Wf.wf x.A∧Wf.wf x.dQ∧Wf.wf x.B∧Wf.wf x.dV∧Wf.wf x.Point∧Wf.wf x.Pos⟩
instance:Wf Layout:=⟨fun x=>Wf.wf x.bB∧Wf.wf x.bN∧Wf.wf x.Sections∧Wf.wf x.Links⟩
instance:Wf qp:=⟨fun x=>Wf.wf x.tZ∧Wf.wf x.end_⟩
instance:Wf Step:=⟨fun x=>Wf.wf x.Section∧Wf.wf x.Dir⟩
instance:Wf mM:=⟨fun x=>Wf.wf x.tZ∧Wf.wf x.side⟩
instance:Wf aO:=⟨fun x=>Wf.wf x.Steps∧Wf.wf x.Overlap⟩
instance:Wf Cell:=⟨fun x=>Wf.wf x.Limit∧Wf.wf x.kr⟩
instance:Wf bS:=⟨fun x=>Wf.wf x.l∧Wf.wf x.i⟩
instance:Wf dP:=⟨fun x=>Wf.wf x.l∧Wf.wf x.tracks∧Wf.wf x.between∧Wf.wf x.eZ⟩
instance:Wf bL:=⟨fun x=>Wf.wf x.Name∧Wf.wf x.Length∧Wf.wf x.zF∧Wf.wf x.zx∧Wf.wf x.zy⟩
instance:Wf vM:=⟨fun x=>Wf.wf x.cells∧Wf.wf x.first⟩
instance:Wf gL:=⟨fun x=>Wf.wf x.aO∧Wf.wf x.Extra∧Wf.wf x.Min∧Wf.wf x.Max⟩
instance:Wf Line:=⟨fun x=>Wf.wf x.Name∧Wf.wf x.bL∧Wf.wf x.Weight∧Wf.wf x.bC⟩
instance:Wf Change:=⟨fun x=>Wf.wf x.gP∧Wf.wf x.jQ∧Wf.wf x.jM∧Wf.wf x.nY∧Wf.wf x.Min∧Wf.wf x.Max∧Wf.wf x.Weight⟩
instance:Wf Turn:=⟨fun x=>Wf.wf x.From∧Wf.wf x.To∧Wf.wf x.Min∧Wf.wf x.Max⟩
instance:Wf Sync:=⟨fun x=>Wf.wf x.qN∧Wf.wf x.qO∧Wf.wf x.q8∧Wf.wf x.q9∧Wf.wf x.Offset⟩
instance:Wf iY:=⟨fun x=>Wf.wf x.From∧Wf.wf x.To∧Wf.wf x.Weight⟩
instance:Wf Plan:=⟨fun x=>Wf.wf x.eX∧Wf.wf x.bJ∧Wf.wf x.Routes∧Wf.wf x.Lines∧Wf.wf x.Changes∧Wf.wf x.Turns∧Wf.wf x.dx∧Wf.wf x.dn⟩
instance:Wf Hop:=⟨fun x=>Wf.wf x.To∧Wf.wf x.Point∧Wf.wf x.Pos⟩
instance:Wf jA:=⟨fun x=>Wf.wf x.From∧Wf.wf x.To∧Wf.wf x.Cap∧Wf.wf x.wN⟩
instance:Wf Graph:=⟨fun x=>Wf.wf x.gX∧Wf.wf x.iH⟩
instance:Wf fD:=⟨fun x=>Wf.wf x.nodes∧Wf.wf x.kW∧Wf.wf x.to∧Wf.wf x.left∧Wf.wf x.cost∧Wf.wf x.from_∧Wf.wf x.excess∧Wf.wf x.price⟩
instance:Wf Flow:=⟨fun x=>Wf.wf x.X∧Wf.wf x.Fp∧Wf.wf x.wN⟩
instance:Wf Task:=⟨fun x=>Wf.wf x.zG∧Wf.wf x.From∧Wf.wf x.To∧Wf.wf x.Start∧Wf.wf x.End⟩
instance:Wf Ej:=⟨fun x=>Wf.wf x.From∧Wf.wf x.To∧Wf.wf x.xD⟩
instance:Wf Rules:=⟨fun x=>Wf.wf x.Turn∧Wf.wf x.fB∧Wf.wf x.gW∧Wf.wf x.Service∧Wf.wf x.Limit⟩
instance:Wf gF:=⟨fun x=>Wf.wf x.Left∧Wf.wf x.Right⟩
instance:Wf dG:=⟨fun x=>Wf.wf x.Line∧Wf.wf x.Day∧Wf.wf x.dA∧Wf.wf x.cK⟩
end Go.Proofs.YtcalibhfgdncaaaGreat

/- What is read at the types of the program is plain data. -/
import Derived.Test.YtcalibhfgdncaaaTypes
import Derived.Test.YtcalibhfgdncaaaD11
set_option linter.all false
namespace Go.Proofs.Ytcalibhfgdncaaa
open Go.Dc Go.RowKit
set_option maxRecDepth 10000
instance : Wf Section := ⟨fun x => Wf.wf x.Name ∧ Wf.wf x.Length ∧ Wf.wf x.Limit ∧ Wf.wf x.jT ∧ Wf.wf x.og⟩
instance : Wf Link := ⟨fun x => Wf.wf x.A ∧ Wf.wf x.jR ∧ Wf.wf x.B ∧ Wf.wf x.jS ∧ Wf.wf x.Point ∧ Wf.wf x.Pos⟩
instance : Wf Layout := ⟨fun x => Wf.wf x.aQ ∧ Wf.wf x.aR ∧ Wf.wf x.Sections ∧ Wf.wf x.Links⟩
instance : Wf Word := ⟨fun x => Wf.wf x.Text ∧ Wf.wf x.Line ∧ Wf.wf x.Col⟩
instance : Wf nN := ⟨fun x => Wf.wf x.fZ ∧ Wf.wf x.end_⟩
instance : Wf Step := ⟨fun x => Wf.wf x.Section ∧ Wf.wf x.Dir⟩
instance : Wf ku := ⟨fun x => Wf.wf x.fZ ∧ Wf.wf x.side⟩
instance : Wf aI := ⟨fun x => Wf.wf x.Steps ∧ Wf.wf x.Overlap⟩
instance : Wf Cell := ⟨fun x => Wf.wf x.Limit ∧ Wf.wf x.jT⟩
instance : Wf bW := ⟨fun x => Wf.wf x.l ∧ Wf.wf x.i⟩
instance : Wf dG := ⟨fun x => Wf.wf x.l ∧ Wf.wf x.tracks ∧ Wf.wf x.between ∧ Wf.wf x.bf⟩
instance : Wf av := ⟨fun x => Wf.wf x.Name ∧ Wf.wf x.Length ∧ Wf.wf x.zU ∧ Wf.wf x.zM ∧ Wf.wf x.zO⟩
instance : Wf qb := ⟨fun x => Wf.wf x.cells ∧ Wf.wf x.first⟩
instance : Wf aC := ⟨fun x => Wf.wf x.aI ∧ Wf.wf x.Extra ∧ Wf.wf x.Min ∧ Wf.wf x.Max⟩
instance : Wf Line := ⟨fun x => Wf.wf x.Name ∧ Wf.wf x.av ∧ Wf.wf x.Weight ∧ Wf.wf x.ay⟩
instance : Wf Change := ⟨fun x => Wf.wf x.kr ∧ Wf.wf x.nC ∧ Wf.wf x.mq ∧ Wf.wf x.qh ∧ Wf.wf x.Min ∧ Wf.wf x.Max ∧ Wf.wf x.Weight⟩
instance : Wf Turn := ⟨fun x => Wf.wf x.From ∧ Wf.wf x.To ∧ Wf.wf x.Min ∧ Wf.wf x.Max⟩
instance : Wf Sync := ⟨fun x => Wf.wf x.qc ∧ Wf.wf x.qd ∧ Wf.wf x.qH ∧ Wf.wf x.qI ∧ Wf.wf x.Offset⟩
instance : Wf aX := ⟨fun x => Wf.wf x.From ∧ Wf.wf x.To ∧ Wf.wf x.Weight⟩
instance : Wf Plan := ⟨fun x => Wf.wf x.bL ∧ Wf.wf x.aT ∧ Wf.wf x.Routes ∧ Wf.wf x.Lines ∧ Wf.wf x.Changes ∧ Wf.wf x.Turns ∧ Wf.wf x.aV ∧ Wf.wf x.aZ⟩
end Go.Proofs.Ytcalibhfgdncaaa

/- What is read at the types of the program is plain data. -/
import Derived.Test.YtohhihdjdelckaaDoorTypes
import Derived.Test.YtohhihdjdelckaaDoorD11
set_option linter.all false
namespace Go.Proofs.YtohhihdjdelckaaDoor
open Go.Dc Go.RowKit
set_option maxRecDepth 10000
instance : Wf Word := ⟨fun x => Wf.wf x.Text ∧ Wf.wf x.Line ∧ Wf.wf x.Col⟩
instance : Wf Section := ⟨fun x => Wf.wf x.Name ∧ Wf.wf x.Length ∧ Wf.wf x.Limit ∧ Wf.wf x.Grade ∧ Wf.wf x.Station⟩
instance : Wf Link := ⟨fun x => Wf.wf x.A ∧ Wf.wf x.AEnd ∧ Wf.wf x.B ∧ Wf.wf x.BEnd ∧ Wf.wf x.Point ∧ Wf.wf x.Pos⟩
instance : Wf Layout := ⟨fun x => Wf.wf x.Stations ∧ Wf.wf x.Points ∧ Wf.wf x.Sections ∧ Wf.wf x.Links⟩
instance : Wf Ref1_end := ⟨fun x => Wf.wf x.section_ ∧ Wf.wf x.end_⟩
instance : Wf Step := ⟨fun x => Wf.wf x.Section ∧ Wf.wf x.Dir⟩
instance : Wf Hop := ⟨fun x => Wf.wf x.To ∧ Wf.wf x.Point ∧ Wf.wf x.Pos⟩
instance : Wf Layout_end := ⟨fun x => Wf.wf x.section_ ∧ Wf.wf x.side⟩
instance : Wf Keep_Source := ⟨fun x => Wf.wf x.l ∧ Wf.wf x.i⟩
instance : Wf Keep_builder := ⟨fun x => Wf.wf x.l ∧ Wf.wf x.tracks ∧ Wf.wf x.between ∧ Wf.wf x.westward⟩
end Go.Proofs.YtohhihdjdelckaaDoor

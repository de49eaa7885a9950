/- What is read at the types of the program is plain data. -/
import Derived.Test.YtcalibhfgdncaaaGreatDoorTypes
import Derived.Test.YtcalibhfgdncaaaGreatDoorD11
set_option linter.all false
namespace Go.Proofs.YtcalibhfgdncaaaGreatDoor
open Go.Dc Go.RowKit
set_option maxRecDepth 10000
instance : Wf Section := ⟨fun x => Wf.wf x.Name ∧ Wf.wf x.Length ∧ Wf.wf x.Limit ∧ Wf.wf x.Grade ∧ Wf.wf x.Station⟩
instance : Wf Link := ⟨fun x => Wf.wf x.A ∧ Wf.wf x.AEnd ∧ Wf.wf x.B ∧ Wf.wf x.BEnd ∧ Wf.wf x.Point ∧ Wf.wf x.Pos⟩
instance : Wf Layout := ⟨fun x => Wf.wf x.Stations ∧ Wf.wf x.Points ∧ Wf.wf x.Sections ∧ Wf.wf x.Links⟩
instance : Wf Word := ⟨fun x => Wf.wf x.Text ∧ Wf.wf x.Line ∧ Wf.wf x.Col⟩
instance : Wf Ref1_end := ⟨fun x => Wf.wf x.section_ ∧ Wf.wf x.end_⟩
instance : Wf Step := ⟨fun x => Wf.wf x.Section ∧ Wf.wf x.Dir⟩
instance : Wf Route_end := ⟨fun x => Wf.wf x.section_ ∧ Wf.wf x.side⟩
instance : Wf Route := ⟨fun x => Wf.wf x.Steps ∧ Wf.wf x.Overlap⟩
instance : Wf Cell := ⟨fun x => Wf.wf x.Limit ∧ Wf.wf x.Grade⟩
instance : Wf Keep_Source := ⟨fun x => Wf.wf x.l ∧ Wf.wf x.i⟩
instance : Wf Keep_builder := ⟨fun x => Wf.wf x.l ∧ Wf.wf x.tracks ∧ Wf.wf x.between ∧ Wf.wf x.westward⟩
instance : Wf Stock := ⟨fun x => Wf.wf x.Name ∧ Wf.wf x.Length ∧ Wf.wf x.Speed ∧ Wf.wf x.Accel ∧ Wf.wf x.Brake⟩
instance : Wf Blocking_movement := ⟨fun x => Wf.wf x.cells ∧ Wf.wf x.first⟩
instance : Wf Ride := ⟨fun x => Wf.wf x.Route ∧ Wf.wf x.Extra ∧ Wf.wf x.Min ∧ Wf.wf x.Max⟩
instance : Wf Line := ⟨fun x => Wf.wf x.Name ∧ Wf.wf x.Stock ∧ Wf.wf x.Weight ∧ Wf.wf x.Rides⟩
instance : Wf Change := ⟨fun x => Wf.wf x.FromLine ∧ Wf.wf x.FromRide ∧ Wf.wf x.ToLine ∧ Wf.wf x.ToRide ∧ Wf.wf x.Min ∧ Wf.wf x.Max ∧ Wf.wf x.Weight⟩
instance : Wf Turn := ⟨fun x => Wf.wf x.From ∧ Wf.wf x.To ∧ Wf.wf x.Min ∧ Wf.wf x.Max⟩
instance : Wf Sync := ⟨fun x => Wf.wf x.LineA ∧ Wf.wf x.RideA ∧ Wf.wf x.LineB ∧ Wf.wf x.RideB ∧ Wf.wf x.Offset⟩
instance : Wf Demand := ⟨fun x => Wf.wf x.From ∧ Wf.wf x.To ∧ Wf.wf x.Weight⟩
instance : Wf Plan := ⟨fun x => Wf.wf x.Period ∧ Wf.wf x.Stocks ∧ Wf.wf x.Routes ∧ Wf.wf x.Lines ∧ Wf.wf x.Changes ∧ Wf.wf x.Turns ∧ Wf.wf x.Syncs ∧ Wf.wf x.Demands⟩
instance : Wf Plan_writer := ⟨fun x => Wf.wf x.lines⟩
instance : Wf Plan_reader := ⟨fun x => Wf.wf x.l ∧ Wf.wf x.p ∧ Wf.wf x.period ∧ Wf.wf x.w ∧ Wf.wf x.e⟩
instance : Wf Hop := ⟨fun x => Wf.wf x.To ∧ Wf.wf x.Point ∧ Wf.wf x.Pos⟩
instance : Wf Ref9_parser := ⟨fun x => Wf.wf x.l ∧ Wf.wf x.p ∧ Wf.wf x.periods⟩
end Go.Proofs.YtcalibhfgdncaaaGreatDoor

/- What is read at the types of the program is plain data. -/
import Derived.Test.YtcalibhfgdncaaaGreatDoorTypes
import Derived.Test.YtcalibhfgdncaaaGreatDoorD11
namespace Go.Proofs.YtcalibhfgdncaaaGreatDoor
open Go.Dc Go.RowKit
set_option maxRecDepth 10000
set_option linter.unusedVariables false
instance : Wf Section := ⟨fun x => Wf.wf x.Name ∧ Wf.wf x.Length ∧ Wf.wf x.Limit ∧ Wf.wf x.Grade ∧ Wf.wf x.Station⟩
theorem opens_Section : Opens Tryz.prog 81 Section := by
  intro H enc w held fuel cs x h hw
  obtain ⟨r0, a0, e0, o0, w0⟩ := field_opens' Tryz.underlying81 0 9 0 1 (opens_str Tryz.underlying9) rfl rfl rfl (by kernel_rfl) h hw
  obtain ⟨r1, a1, e1, o1, w1⟩ := field_opens' Tryz.underlying81 1 3 1 1 (opens_int Tryz.underlying3) rfl rfl rfl (by kernel_rfl) h hw
  obtain ⟨r2, a2, e2, o2, w2⟩ := field_opens' Tryz.underlying81 2 3 2 1 (opens_int Tryz.underlying3) rfl rfl rfl (by kernel_rfl) h hw
  obtain ⟨r3, a3, e3, o3, w3⟩ := field_opens' Tryz.underlying81 3 3 3 1 (opens_int Tryz.underlying3) rfl rfl rfl (by kernel_rfl) h hw
  obtain ⟨r4, a4, e4, o4, w4⟩ := field_opens' Tryz.underlying81 4 3 4 1 (opens_int Tryz.underlying3) rfl rfl rfl (by kernel_rfl) h hw
  have hl : cs.length = 5 := (struct_len Tryz.underlying81 h).trans (by kernel_rfl)
  refine ⟨(), ⟨a0, a1, a2, a3, a4⟩, ?_, trivial, ⟨w0, w1, w2, w3, w4⟩⟩
  have c0 := cut_drop cs 0 1
  have c1 := cut_drop cs 1 1
  have c2 := cut_drop cs 2 1
  have c3 := cut_drop cs 3 1
  have c4 := cut_drop cs 4 1
  have ce : cs.drop 5 = [] := List.drop_eq_nil_of_le (by omega)
  simp only [Nat.reduceAdd] at c0 c1 c2 c3 c4
  have c : cs = cs.drop 0 := rfl
  rw [c, c0, e0, c1, e1, c2, e2, c3, e3, c4, e4, ce]
  rfl

instance : Wf Link := ⟨fun x => Wf.wf x.A ∧ Wf.wf x.AEnd ∧ Wf.wf x.B ∧ Wf.wf x.BEnd ∧ Wf.wf x.Point ∧ Wf.wf x.Pos⟩
theorem opens_Link : Opens Tryz.prog 183 Link := by
  intro H enc w held fuel cs x h hw
  obtain ⟨r0, a0, e0, o0, w0⟩ := field_opens' Tryz.underlying183 0 3 0 1 (opens_int Tryz.underlying3) rfl rfl rfl (by kernel_rfl) h hw
  obtain ⟨r1, a1, e1, o1, w1⟩ := field_opens' Tryz.underlying183 1 3 1 1 (opens_int Tryz.underlying3) rfl rfl rfl (by kernel_rfl) h hw
  obtain ⟨r2, a2, e2, o2, w2⟩ := field_opens' Tryz.underlying183 2 3 2 1 (opens_int Tryz.underlying3) rfl rfl rfl (by kernel_rfl) h hw
  obtain ⟨r3, a3, e3, o3, w3⟩ := field_opens' Tryz.underlying183 3 3 3 1 (opens_int Tryz.underlying3) rfl rfl rfl (by kernel_rfl) h hw
  obtain ⟨r4, a4, e4, o4, w4⟩ := field_opens' Tryz.underlying183 4 3 4 1 (opens_int Tryz.underlying3) rfl rfl rfl (by kernel_rfl) h hw
  obtain ⟨r5, a5, e5, o5, w5⟩ := field_opens' Tryz.underlying183 5 3 5 1 (opens_int Tryz.underlying3) rfl rfl rfl (by kernel_rfl) h hw
  have hl : cs.length = 6 := (struct_len Tryz.underlying183 h).trans (by kernel_rfl)
  refine ⟨(), ⟨a0, a1, a2, a3, a4, a5⟩, ?_, trivial, ⟨w0, w1, w2, w3, w4, w5⟩⟩
  have c0 := cut_drop cs 0 1
  have c1 := cut_drop cs 1 1
  have c2 := cut_drop cs 2 1
  have c3 := cut_drop cs 3 1
  have c4 := cut_drop cs 4 1
  have c5 := cut_drop cs 5 1
  have ce : cs.drop 6 = [] := List.drop_eq_nil_of_le (by omega)
  simp only [Nat.reduceAdd] at c0 c1 c2 c3 c4 c5
  have c : cs = cs.drop 0 := rfl
  rw [c, c0, e0, c1, e1, c2, e2, c3, e3, c4, e4, c5, e5, ce]
  rfl

instance : Wf Layout := ⟨fun x => Wf.wf x.Stations ∧ Wf.wf x.Points ∧ Wf.wf x.Sections ∧ Wf.wf x.Links⟩
theorem opens_Layout : Opens Tryz.prog 26 Layout := by
  intro H enc w held fuel cs x h hw
  obtain ⟨r0, a0, e0, o0, w0⟩ := field_opens' Tryz.underlying26 0 22 0 1 (opens_slice (() : GoRep.R Str) Tryz.underlying22 (by kernel_rfl) (by kernel_rfl) (opens_str Tryz.underlying9)) rfl rfl rfl (by kernel_rfl) h hw
  obtain ⟨r1, a1, e1, o1, w1⟩ := field_opens' Tryz.underlying26 1 22 1 1 (opens_slice (() : GoRep.R Str) Tryz.underlying22 (by kernel_rfl) (by kernel_rfl) (opens_str Tryz.underlying9)) rfl rfl rfl (by kernel_rfl) h hw
  obtain ⟨r2, a2, e2, o2, w2⟩ := field_opens' Tryz.underlying26 2 23 2 1 (opens_slice (() : GoRep.R Section) Tryz.underlying23 (by kernel_rfl) (by kernel_rfl) opens_Section) rfl rfl rfl (by kernel_rfl) h hw
  obtain ⟨r3, a3, e3, o3, w3⟩ := field_opens' Tryz.underlying26 3 24 3 1 (opens_slice (() : GoRep.R Link) Tryz.underlying24 (by kernel_rfl) (by kernel_rfl) opens_Link) rfl rfl rfl (by kernel_rfl) h hw
  have hl : cs.length = 4 := (struct_len Tryz.underlying26 h).trans (by kernel_rfl)
  refine ⟨(r0, r1, r2, r3), ⟨a0, a1, a2, a3⟩, ?_, ⟨o0, o1, o2, o3⟩, ⟨w0, w1, w2, w3⟩⟩
  have c0 := cut_drop cs 0 1
  have c1 := cut_drop cs 1 1
  have c2 := cut_drop cs 2 1
  have c3 := cut_drop cs 3 1
  have ce : cs.drop 4 = [] := List.drop_eq_nil_of_le (by omega)
  simp only [Nat.reduceAdd] at c0 c1 c2 c3
  have c : cs = cs.drop 0 := rfl
  rw [c, c0, e0, c1, e1, c2, e2, c3, e3, ce]
  rfl

instance : Wf Word := ⟨fun x => Wf.wf x.Text ∧ Wf.wf x.Line ∧ Wf.wf x.Col⟩
instance : Wf Ref1_end := ⟨fun x => Wf.wf x.section_ ∧ Wf.wf x.end_⟩
instance : Wf Keep_Source := ⟨fun x => Wf.wf x.l ∧ Wf.wf x.i⟩
instance : Wf Keep_builder := ⟨fun x => Wf.wf x.l ∧ Wf.wf x.tracks ∧ Wf.wf x.between ∧ Wf.wf x.westward⟩
instance : Wf Stock := ⟨fun x => Wf.wf x.Name ∧ Wf.wf x.Length ∧ Wf.wf x.Speed ∧ Wf.wf x.Accel ∧ Wf.wf x.Brake⟩
instance : Wf Step := ⟨fun x => Wf.wf x.Section ∧ Wf.wf x.Dir⟩
instance : Wf Route := ⟨fun x => Wf.wf x.Steps ∧ Wf.wf x.Overlap⟩
instance : Wf Ride := ⟨fun x => Wf.wf x.Route ∧ Wf.wf x.Extra ∧ Wf.wf x.Min ∧ Wf.wf x.Max⟩
instance : Wf Line := ⟨fun x => Wf.wf x.Name ∧ Wf.wf x.Stock ∧ Wf.wf x.Weight ∧ Wf.wf x.Rides⟩
instance : Wf Change := ⟨fun x => Wf.wf x.FromLine ∧ Wf.wf x.FromRide ∧ Wf.wf x.ToLine ∧ Wf.wf x.ToRide ∧ Wf.wf x.Min ∧ Wf.wf x.Max ∧ Wf.wf x.Weight⟩
instance : Wf Turn := ⟨fun x => Wf.wf x.From ∧ Wf.wf x.To ∧ Wf.wf x.Min ∧ Wf.wf x.Max⟩
instance : Wf Sync := ⟨fun x => Wf.wf x.LineA ∧ Wf.wf x.RideA ∧ Wf.wf x.LineB ∧ Wf.wf x.RideB ∧ Wf.wf x.Offset⟩
instance : Wf Demand := ⟨fun x => Wf.wf x.From ∧ Wf.wf x.To ∧ Wf.wf x.Weight⟩
instance : Wf Plan := ⟨fun x => Wf.wf x.Period ∧ Wf.wf x.Stocks ∧ Wf.wf x.Routes ∧ Wf.wf x.Lines ∧ Wf.wf x.Changes ∧ Wf.wf x.Turns ∧ Wf.wf x.Syncs ∧ Wf.wf x.Demands⟩
end Go.Proofs.YtcalibhfgdncaaaGreatDoor

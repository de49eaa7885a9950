/- The program's types as plain data. -/
import Derived.Test.YtcalibhfgdncaaaGreatDoorChecked
import Derived.Test.YtcalibhfgdncaaaGreatDoorDn
set_option linter.all false
namespace Go.Proofs.YtcalibhfgdncaaaGreatDoor
open Go.Dc Go.RowKit
set_option maxRecDepth 10000
structure Section where
 Name : Str
 Length : Int
 Limit : Int
 Grade : Int
 Station : Int
 deriving DecidableEq, Inhabited
instance : GoRep Section where
 R := Unit
 n := 5
 bytes := 48
 enc := fun r x => [.string x.Name.ba, .int .i64 x.Length, .int .i64 x.Limit, .int .i64 x.Grade, .int .i64 x.Station]
 ok := fun S w r x => True
 npos := by decide
 bpos := by decide
 len := fun _ _ => rfl
 one := fun r x v hv => by
  have h : [.string x.Name.ba, .int .i64 x.Length, .int .i64 x.Limit, .int .i64 x.Grade, .int .i64 x.Station].all Value.oneCell' = true := rfl
  exact List.all_eq_true.1 h v hv
 mono := fun _ _ _ _ _ _ h => h
 dep := fun _ _ _ _ _ _ h => h
structure Link where
 A : Int
 AEnd : Int
 B : Int
 BEnd : Int
 Point : Int
 Pos : Int
 deriving DecidableEq, Inhabited
instance : GoRep Link where
 R := Unit
 n := 6
 bytes := 48
 enc := fun r x => [.int .i64 x.A, .int .i64 x.AEnd, .int .i64 x.B, .int .i64 x.BEnd, .int .i64 x.Point, .int .i64 x.Pos]
 ok := fun S w r x => True
 npos := by decide
 bpos := by decide
 len := fun _ _ => rfl
 one := fun r x v hv => by
  have h : [.int .i64 x.A, .int .i64 x.AEnd, .int .i64 x.B, .int .i64 x.BEnd, .int .i64 x.Point, .int .i64 x.Pos].all Value.oneCell' = true := rfl
  exact List.all_eq_true.1 h v hv
 mono := fun _ _ _ _ _ _ h => h
 dep := fun _ _ _ _ _ _ h => h
structure Layout where
 Stations : List Str
 Points : List Str
 Sections : List Section
 Links : List Link
 deriving DecidableEq, Inhabited
instance : GoRep Layout where
 R := (GoRep.R (List Str)) × (GoRep.R (List Str)) × (GoRep.R (List Section)) × (GoRep.R (List Link))
 n := 4
 bytes := 96
 enc := fun r x => [.slice r.1.a x.Stations.length r.1.cap, .slice r.2.1.a x.Points.length r.2.1.cap, .slice r.2.2.1.a x.Sections.length r.2.2.1.cap, .slice r.2.2.2.a x.Links.length r.2.2.2.cap]
 ok := fun S w r x => GoRep.ok S w r.1 x.Stations ∧ GoRep.ok S w r.2.1 x.Points ∧ GoRep.ok S w r.2.2.1 x.Sections ∧ GoRep.ok S w r.2.2.2 x.Links
 npos := by decide
 bpos := by decide
 len := fun _ _ => rfl
 one := fun r x v hv => by
  have h : [.slice r.1.a x.Stations.length r.1.cap, .slice r.2.1.a x.Points.length r.2.1.cap, .slice r.2.2.1.a x.Sections.length r.2.2.1.cap, .slice r.2.2.2.a x.Links.length r.2.2.2.cap].all Value.oneCell' = true := rfl
  exact List.all_eq_true.1 h v hv
 mono := fun S S' w r x hs ⟨h0, h1, h2, h3⟩ => ⟨GoRep.mono S S' w _ _ hs h0, GoRep.mono S S' w _ _ hs h1, GoRep.mono S S' w _ _ hs h2, GoRep.mono S S' w _ _ hs h3⟩
 dep := fun S w w' r x hs ⟨h0, h1, h2, h3⟩ => ⟨GoRep.dep S w w' _ _ hs h0, GoRep.dep S w w' _ _ hs h1, GoRep.dep S w w' _ _ hs h2, GoRep.dep S w w' _ _ hs h3⟩
structure Word where
 Text : Str
 Line : Int
 Col : Int
 deriving DecidableEq, Inhabited
instance : GoRep Word where
 R := Unit
 n := 3
 bytes := 32
 enc := fun r x => [.string x.Text.ba, .int .i64 x.Line, .int .i64 x.Col]
 ok := fun S w r x => True
 npos := by decide
 bpos := by decide
 len := fun _ _ => rfl
 one := fun r x v hv => by
  have h : [.string x.Text.ba, .int .i64 x.Line, .int .i64 x.Col].all Value.oneCell' = true := rfl
  exact List.all_eq_true.1 h v hv
 mono := fun _ _ _ _ _ _ h => h
 dep := fun _ _ _ _ _ _ h => h
structure Ref1_end where
 section_ : Int
 end_ : Int
 deriving DecidableEq, Inhabited
instance : GoRep Ref1_end where
 R := Unit
 n := 2
 bytes := 16
 enc := fun r x => [.int .i64 x.section_, .int .i64 x.end_]
 ok := fun S w r x => True
 npos := by decide
 bpos := by decide
 len := fun _ _ => rfl
 one := fun r x v hv => by
  have h : [.int .i64 x.section_, .int .i64 x.end_].all Value.oneCell' = true := rfl
  exact List.all_eq_true.1 h v hv
 mono := fun _ _ _ _ _ _ h => h
 dep := fun _ _ _ _ _ _ h => h
theorem Ref1_end_eqv (x y : Ref1_end) : decide (x = y) = true ↔ ([.int .i64 x.section_, .int .i64 x.end_] : List Value) = [.int .i64 y.section_, .int .i64 y.end_] := by
 constructor
 ·intro h; rw [of_decide_eq_true h]
 ·intro h
  obtain ⟨a_1, a_2⟩ := x
  obtain ⟨b_1, b_2⟩ := y
  simp only [List.cons.injEq, Value.int.injEq, Value.bool.injEq, Value.string.injEq, Str.ba_iff, true_and, and_true] at h
  simp only [decide_eq_true_eq, Ref1_end.mk.injEq]
  simp_all
structure Step where
 Section : Int
 Dir : Int
 deriving DecidableEq, Inhabited
instance : GoRep Step where
 R := Unit
 n := 2
 bytes := 16
 enc := fun r x => [.int .i64 x.Section, .int .i64 x.Dir]
 ok := fun S w r x => True
 npos := by decide
 bpos := by decide
 len := fun _ _ => rfl
 one := fun r x v hv => by
  have h : [.int .i64 x.Section, .int .i64 x.Dir].all Value.oneCell' = true := rfl
  exact List.all_eq_true.1 h v hv
 mono := fun _ _ _ _ _ _ h => h
 dep := fun _ _ _ _ _ _ h => h
structure Route_end where
 section_ : Int
 side : Int
 deriving DecidableEq, Inhabited
instance : GoRep Route_end where
 R := Unit
 n := 2
 bytes := 16
 enc := fun r x => [.int .i64 x.section_, .int .i64 x.side]
 ok := fun S w r x => True
 npos := by decide
 bpos := by decide
 len := fun _ _ => rfl
 one := fun r x v hv => by
  have h : [.int .i64 x.section_, .int .i64 x.side].all Value.oneCell' = true := rfl
  exact List.all_eq_true.1 h v hv
 mono := fun _ _ _ _ _ _ h => h
 dep := fun _ _ _ _ _ _ h => h
theorem Route_end_eqv (x y : Route_end) : decide (x = y) = true ↔ ([.int .i64 x.section_, .int .i64 x.side] : List Value) = [.int .i64 y.section_, .int .i64 y.side] := by
 constructor
 ·intro h; rw [of_decide_eq_true h]
 ·intro h
  obtain ⟨a_1, a_2⟩ := x
  obtain ⟨b_1, b_2⟩ := y
  simp only [List.cons.injEq, Value.int.injEq, Value.bool.injEq, Value.string.injEq, Str.ba_iff, true_and, and_true] at h
  simp only [decide_eq_true_eq, Route_end.mk.injEq]
  simp_all
structure Route where
 Steps : List Step
 Overlap : Int
 deriving DecidableEq, Inhabited
instance : GoRep Route where
 R := (GoRep.R (List Step))
 n := 2
 bytes := 32
 enc := fun r x => [.slice r.a x.Steps.length r.cap, .int .i64 x.Overlap]
 ok := fun S w r x => GoRep.ok S w r x.Steps
 npos := by decide
 bpos := by decide
 len := fun _ _ => rfl
 one := fun r x v hv => by
  have h : [.slice r.a x.Steps.length r.cap, .int .i64 x.Overlap].all Value.oneCell' = true := rfl
  exact List.all_eq_true.1 h v hv
 mono := fun S S' w r x hs h => GoRep.mono S S' w _ _ hs h
 dep := fun S w w' r x hs h => GoRep.dep S w w' _ _ hs h
structure Cell where
 Limit : Int
 Grade : Int
 deriving DecidableEq, Inhabited
instance : GoRep Cell where
 R := Unit
 n := 2
 bytes := 16
 enc := fun r x => [.int .i64 x.Limit, .int .i64 x.Grade]
 ok := fun S w r x => True
 npos := by decide
 bpos := by decide
 len := fun _ _ => rfl
 one := fun r x v hv => by
  have h : [.int .i64 x.Limit, .int .i64 x.Grade].all Value.oneCell' = true := rfl
  exact List.all_eq_true.1 h v hv
 mono := fun _ _ _ _ _ _ h => h
 dep := fun _ _ _ _ _ _ h => h
structure Keep_Source where
 l : List Int
 i : Int
 deriving DecidableEq, Inhabited
instance : GoRep Keep_Source where
 R := (GoRep.R (List Int))
 n := 2
 bytes := 32
 enc := fun r x => [.slice r.a x.l.length r.cap, .int .i64 x.i]
 ok := fun S w r x => GoRep.ok S w r x.l
 npos := by decide
 bpos := by decide
 len := fun _ _ => rfl
 one := fun r x v hv => by
  have h : [.slice r.a x.l.length r.cap, .int .i64 x.i].all Value.oneCell' = true := rfl
  exact List.all_eq_true.1 h v hv
 mono := fun S S' w r x hs h => GoRep.mono S S' w _ _ hs h
 dep := fun S w w' r x hs h => GoRep.dep S w w' _ _ hs h
structure Keep_builder where
 l : Layout
 tracks : List (List Int)
 between : List (List Int)
 westward : List (List Int)
 deriving DecidableEq, Inhabited
instance : GoRep Keep_builder where
 R := (GoRep.R Layout) × (GoRep.R (List (List Int))) × (GoRep.R (List (List Int))) × (GoRep.R (List (List Int)))
 n := 7
 bytes := 168
 enc := fun r x => [.slice r.1.1.a x.l.Stations.length r.1.1.cap, .slice r.1.2.1.a x.l.Points.length r.1.2.1.cap, .slice r.1.2.2.1.a x.l.Sections.length r.1.2.2.1.cap, .slice r.1.2.2.2.a x.l.Links.length r.1.2.2.2.cap, .slice r.2.1.a x.tracks.length r.2.1.cap, .slice r.2.2.1.a x.between.length r.2.2.1.cap, .slice r.2.2.2.a x.westward.length r.2.2.2.cap]
 ok := fun S w r x => GoRep.ok S w r.1 x.l ∧ GoRep.ok S w r.2.1 x.tracks ∧ GoRep.ok S w r.2.2.1 x.between ∧ GoRep.ok S w r.2.2.2 x.westward
 npos := by decide
 bpos := by decide
 len := fun _ _ => rfl
 one := fun r x v hv => by
  have h : [.slice r.1.1.a x.l.Stations.length r.1.1.cap, .slice r.1.2.1.a x.l.Points.length r.1.2.1.cap, .slice r.1.2.2.1.a x.l.Sections.length r.1.2.2.1.cap, .slice r.1.2.2.2.a x.l.Links.length r.1.2.2.2.cap, .slice r.2.1.a x.tracks.length r.2.1.cap, .slice r.2.2.1.a x.between.length r.2.2.1.cap, .slice r.2.2.2.a x.westward.length r.2.2.2.cap].all Value.oneCell' = true := rfl
  exact List.all_eq_true.1 h v hv
 mono := fun S S' w r x hs ⟨h0, h1, h2, h3⟩ => ⟨GoRep.mono S S' w _ _ hs h0, GoRep.mono S S' w _ _ hs h1, GoRep.mono S S' w _ _ hs h2, GoRep.mono S S' w _ _ hs h3⟩
 dep := fun S w w' r x hs ⟨h0, h1, h2, h3⟩ => ⟨GoRep.dep S w w' _ _ hs h0, GoRep.dep S w w' _ _ hs h1, GoRep.dep S w w' _ _ hs h2, GoRep.dep S w w' _ _ hs h3⟩
structure Stock where
 Name : Str
 Length : Int
 Speed : Int
 Accel : Int
 Brake : Int
 deriving DecidableEq, Inhabited
instance : GoRep Stock where
 R := Unit
 n := 5
 bytes := 48
 enc := fun r x => [.string x.Name.ba, .int .i64 x.Length, .int .i64 x.Speed, .int .i64 x.Accel, .int .i64 x.Brake]
 ok := fun S w r x => True
 npos := by decide
 bpos := by decide
 len := fun _ _ => rfl
 one := fun r x v hv => by
  have h : [.string x.Name.ba, .int .i64 x.Length, .int .i64 x.Speed, .int .i64 x.Accel, .int .i64 x.Brake].all Value.oneCell' = true := rfl
  exact List.all_eq_true.1 h v hv
 mono := fun _ _ _ _ _ _ h => h
 dep := fun _ _ _ _ _ _ h => h
structure Blocking_movement where
 cells : List Cell
 first : Int
 deriving DecidableEq, Inhabited
instance : GoRep Blocking_movement where
 R := (GoRep.R (List Cell))
 n := 2
 bytes := 32
 enc := fun r x => [.slice r.a x.cells.length r.cap, .int .i64 x.first]
 ok := fun S w r x => GoRep.ok S w r x.cells
 npos := by decide
 bpos := by decide
 len := fun _ _ => rfl
 one := fun r x v hv => by
  have h : [.slice r.a x.cells.length r.cap, .int .i64 x.first].all Value.oneCell' = true := rfl
  exact List.all_eq_true.1 h v hv
 mono := fun S S' w r x hs h => GoRep.mono S S' w _ _ hs h
 dep := fun S w w' r x hs h => GoRep.dep S w w' _ _ hs h
structure Ride where
 Route : Int
 Extra : Int
 Min : Int
 Max : Int
 deriving DecidableEq, Inhabited
instance : GoRep Ride where
 R := Unit
 n := 4
 bytes := 32
 enc := fun r x => [.int .i64 x.Route, .int .i64 x.Extra, .int .i64 x.Min, .int .i64 x.Max]
 ok := fun S w r x => True
 npos := by decide
 bpos := by decide
 len := fun _ _ => rfl
 one := fun r x v hv => by
  have h : [.int .i64 x.Route, .int .i64 x.Extra, .int .i64 x.Min, .int .i64 x.Max].all Value.oneCell' = true := rfl
  exact List.all_eq_true.1 h v hv
 mono := fun _ _ _ _ _ _ h => h
 dep := fun _ _ _ _ _ _ h => h
structure Line where
 Name : Str
 Stock : Int
 Weight : Int
 Rides : List Ride
 deriving DecidableEq, Inhabited
instance : GoRep Line where
 R := (GoRep.R (List Ride))
 n := 4
 bytes := 56
 enc := fun r x => [.string x.Name.ba, .int .i64 x.Stock, .int .i64 x.Weight, .slice r.a x.Rides.length r.cap]
 ok := fun S w r x => GoRep.ok S w r x.Rides
 npos := by decide
 bpos := by decide
 len := fun _ _ => rfl
 one := fun r x v hv => by
  have h : [.string x.Name.ba, .int .i64 x.Stock, .int .i64 x.Weight, .slice r.a x.Rides.length r.cap].all Value.oneCell' = true := rfl
  exact List.all_eq_true.1 h v hv
 mono := fun S S' w r x hs h => GoRep.mono S S' w _ _ hs h
 dep := fun S w w' r x hs h => GoRep.dep S w w' _ _ hs h
instance : Inner Line Ride where
 get := fun x => x.Rides
 rep := fun r => r
 okI := fun _ _ _ _ h => h
structure Change where
 FromLine : Int
 FromRide : Int
 ToLine : Int
 ToRide : Int
 Min : Int
 Max : Int
 Weight : Int
 deriving DecidableEq, Inhabited
instance : GoRep Change where
 R := Unit
 n := 7
 bytes := 56
 enc := fun r x => [.int .i64 x.FromLine, .int .i64 x.FromRide, .int .i64 x.ToLine, .int .i64 x.ToRide, .int .i64 x.Min, .int .i64 x.Max, .int .i64 x.Weight]
 ok := fun S w r x => True
 npos := by decide
 bpos := by decide
 len := fun _ _ => rfl
 one := fun r x v hv => by
  have h : [.int .i64 x.FromLine, .int .i64 x.FromRide, .int .i64 x.ToLine, .int .i64 x.ToRide, .int .i64 x.Min, .int .i64 x.Max, .int .i64 x.Weight].all Value.oneCell' = true := rfl
  exact List.all_eq_true.1 h v hv
 mono := fun _ _ _ _ _ _ h => h
 dep := fun _ _ _ _ _ _ h => h
structure Turn where
 From : Int
 To : Int
 Min : Int
 Max : Int
 deriving DecidableEq, Inhabited
instance : GoRep Turn where
 R := Unit
 n := 4
 bytes := 32
 enc := fun r x => [.int .i64 x.From, .int .i64 x.To, .int .i64 x.Min, .int .i64 x.Max]
 ok := fun S w r x => True
 npos := by decide
 bpos := by decide
 len := fun _ _ => rfl
 one := fun r x v hv => by
  have h : [.int .i64 x.From, .int .i64 x.To, .int .i64 x.Min, .int .i64 x.Max].all Value.oneCell' = true := rfl
  exact List.all_eq_true.1 h v hv
 mono := fun _ _ _ _ _ _ h => h
 dep := fun _ _ _ _ _ _ h => h
structure Sync where
 LineA : Int
 RideA : Int
 LineB : Int
 RideB : Int
 Offset : Int
 deriving DecidableEq, Inhabited
instance : GoRep Sync where
 R := Unit
 n := 5
 bytes := 40
 enc := fun r x => [.int .i64 x.LineA, .int .i64 x.RideA, .int .i64 x.LineB, .int .i64 x.RideB, .int .i64 x.Offset]
 ok := fun S w r x => True
 npos := by decide
 bpos := by decide
 len := fun _ _ => rfl
 one := fun r x v hv => by
  have h : [.int .i64 x.LineA, .int .i64 x.RideA, .int .i64 x.LineB, .int .i64 x.RideB, .int .i64 x.Offset].all Value.oneCell' = true := rfl
  exact List.all_eq_true.1 h v hv
 mono := fun _ _ _ _ _ _ h => h
 dep := fun _ _ _ _ _ _ h => h
structure Demand where
 From : Int
 To : Int
 Weight : Int
 deriving DecidableEq, Inhabited
instance : GoRep Demand where
 R := Unit
 n := 3
 bytes := 24
 enc := fun r x => [.int .i64 x.From, .int .i64 x.To, .int .i64 x.Weight]
 ok := fun S w r x => True
 npos := by decide
 bpos := by decide
 len := fun _ _ => rfl
 one := fun r x v hv => by
  have h : [.int .i64 x.From, .int .i64 x.To, .int .i64 x.Weight].all Value.oneCell' = true := rfl
  exact List.all_eq_true.1 h v hv
 mono := fun _ _ _ _ _ _ h => h
 dep := fun _ _ _ _ _ _ h => h
structure Plan where
 Period : Int
 Stocks : List Stock
 Routes : List Route
 Lines : List Line
 Changes : List Change
 Turns : List Turn
 Syncs : List Sync
 Demands : List Demand
 deriving DecidableEq, Inhabited
instance : GoRep Plan where
 R := (GoRep.R (List Stock)) × (GoRep.R (List Route)) × (GoRep.R (List Line)) × (GoRep.R (List Change)) × (GoRep.R (List Turn)) × (GoRep.R (List Sync)) × (GoRep.R (List Demand))
 n := 8
 bytes := 176
 enc := fun r x => [.int .i64 x.Period, .slice r.1.a x.Stocks.length r.1.cap, .slice r.2.1.a x.Routes.length r.2.1.cap, .slice r.2.2.1.a x.Lines.length r.2.2.1.cap, .slice r.2.2.2.1.a x.Changes.length r.2.2.2.1.cap, .slice r.2.2.2.2.1.a x.Turns.length r.2.2.2.2.1.cap, .slice r.2.2.2.2.2.1.a x.Syncs.length r.2.2.2.2.2.1.cap, .slice r.2.2.2.2.2.2.a x.Demands.length r.2.2.2.2.2.2.cap]
 ok := fun S w r x => GoRep.ok S w r.1 x.Stocks ∧ GoRep.ok S w r.2.1 x.Routes ∧ GoRep.ok S w r.2.2.1 x.Lines ∧ GoRep.ok S w r.2.2.2.1 x.Changes ∧ GoRep.ok S w r.2.2.2.2.1 x.Turns ∧ GoRep.ok S w r.2.2.2.2.2.1 x.Syncs ∧ GoRep.ok S w r.2.2.2.2.2.2 x.Demands
 npos := by decide
 bpos := by decide
 len := fun _ _ => rfl
 one := fun r x v hv => by
  have h : [.int .i64 x.Period, .slice r.1.a x.Stocks.length r.1.cap, .slice r.2.1.a x.Routes.length r.2.1.cap, .slice r.2.2.1.a x.Lines.length r.2.2.1.cap, .slice r.2.2.2.1.a x.Changes.length r.2.2.2.1.cap, .slice r.2.2.2.2.1.a x.Turns.length r.2.2.2.2.1.cap, .slice r.2.2.2.2.2.1.a x.Syncs.length r.2.2.2.2.2.1.cap, .slice r.2.2.2.2.2.2.a x.Demands.length r.2.2.2.2.2.2.cap].all Value.oneCell' = true := rfl
  exact List.all_eq_true.1 h v hv
 mono := fun S S' w r x hs ⟨h0, h1, h2, h3, h4, h5, h6⟩ => ⟨GoRep.mono S S' w _ _ hs h0, GoRep.mono S S' w _ _ hs h1, GoRep.mono S S' w _ _ hs h2, GoRep.mono S S' w _ _ hs h3, GoRep.mono S S' w _ _ hs h4, GoRep.mono S S' w _ _ hs h5, GoRep.mono S S' w _ _ hs h6⟩
 dep := fun S w w' r x hs ⟨h0, h1, h2, h3, h4, h5, h6⟩ => ⟨GoRep.dep S w w' _ _ hs h0, GoRep.dep S w w' _ _ hs h1, GoRep.dep S w w' _ _ hs h2, GoRep.dep S w w' _ _ hs h3, GoRep.dep S w w' _ _ hs h4, GoRep.dep S w w' _ _ hs h5, GoRep.dep S w w' _ _ hs h6⟩
instance : GoRep Any where
 R := Unit
 n := 1
 bytes := 16
 enc := fun _ x => [anyV 9 3 x]
 ok := fun _ _ _ _ => True
 npos := Nat.one_pos
 bpos := by omega
 len := fun _ _ => rfl
 one := fun _ x v hv => by simp at hv; subst hv; cases x <;> rfl
 mono := fun _ _ _ _ _ _ h => h
 dep := fun _ _ _ _ _ _ h => h
structure Plan_writer where
 lines : List (List Str)
 deriving DecidableEq, Inhabited
instance : GoRep Plan_writer where
 R := (GoRep.R (List (List Str)))
 n := 1
 bytes := 24
 enc := fun r x => [.slice r.a x.lines.length r.cap]
 ok := fun S w r x => GoRep.ok S w r x.lines
 npos := by decide
 bpos := by decide
 len := fun _ _ => rfl
 one := fun r x v hv => by
  have h : [.slice r.a x.lines.length r.cap].all Value.oneCell' = true := rfl
  exact List.all_eq_true.1 h v hv
 mono := fun S S' w r x hs h => GoRep.mono S S' w _ _ hs h
 dep := fun S w w' r x hs h => GoRep.dep S w w' _ _ hs h
structure Plan_reader where
 l : Layout
 p : Plan
 period : Bool
 w : List Str
 e : Int
 deriving DecidableEq, Inhabited
instance : GoRep Plan_reader where
 R := (GoRep.R Layout) × (GoRep.R Plan) × (GoRep.R (List Str))
 n := 15
 bytes := 312
 enc := fun r x => [.slice r.1.1.a x.l.Stations.length r.1.1.cap, .slice r.1.2.1.a x.l.Points.length r.1.2.1.cap, .slice r.1.2.2.1.a x.l.Sections.length r.1.2.2.1.cap, .slice r.1.2.2.2.a x.l.Links.length r.1.2.2.2.cap, .int .i64 x.p.Period, .slice r.2.1.1.a x.p.Stocks.length r.2.1.1.cap, .slice r.2.1.2.1.a x.p.Routes.length r.2.1.2.1.cap, .slice r.2.1.2.2.1.a x.p.Lines.length r.2.1.2.2.1.cap, .slice r.2.1.2.2.2.1.a x.p.Changes.length r.2.1.2.2.2.1.cap, .slice r.2.1.2.2.2.2.1.a x.p.Turns.length r.2.1.2.2.2.2.1.cap, .slice r.2.1.2.2.2.2.2.1.a x.p.Syncs.length r.2.1.2.2.2.2.2.1.cap, .slice r.2.1.2.2.2.2.2.2.a x.p.Demands.length r.2.1.2.2.2.2.2.2.cap, .bool x.period, .slice r.2.2.a x.w.length r.2.2.cap, .int .i64 x.e]
 ok := fun S w r x => GoRep.ok S w r.1 x.l ∧ GoRep.ok S w r.2.1 x.p ∧ GoRep.ok S w r.2.2 x.w
 npos := by decide
 bpos := by decide
 len := fun _ _ => rfl
 one := fun r x v hv => by
  have h : [.slice r.1.1.a x.l.Stations.length r.1.1.cap, .slice r.1.2.1.a x.l.Points.length r.1.2.1.cap, .slice r.1.2.2.1.a x.l.Sections.length r.1.2.2.1.cap, .slice r.1.2.2.2.a x.l.Links.length r.1.2.2.2.cap, .int .i64 x.p.Period, .slice r.2.1.1.a x.p.Stocks.length r.2.1.1.cap, .slice r.2.1.2.1.a x.p.Routes.length r.2.1.2.1.cap, .slice r.2.1.2.2.1.a x.p.Lines.length r.2.1.2.2.1.cap, .slice r.2.1.2.2.2.1.a x.p.Changes.length r.2.1.2.2.2.1.cap, .slice r.2.1.2.2.2.2.1.a x.p.Turns.length r.2.1.2.2.2.2.1.cap, .slice r.2.1.2.2.2.2.2.1.a x.p.Syncs.length r.2.1.2.2.2.2.2.1.cap, .slice r.2.1.2.2.2.2.2.2.a x.p.Demands.length r.2.1.2.2.2.2.2.2.cap, .bool x.period, .slice r.2.2.a x.w.length r.2.2.cap, .int .i64 x.e].all Value.oneCell' = true := rfl
  exact List.all_eq_true.1 h v hv
 mono := fun S S' w r x hs ⟨h0, h1, h2⟩ => ⟨GoRep.mono S S' w _ _ hs h0, GoRep.mono S S' w _ _ hs h1, GoRep.mono S S' w _ _ hs h2⟩
 dep := fun S w w' r x hs ⟨h0, h1, h2⟩ => ⟨GoRep.dep S w w' _ _ hs h0, GoRep.dep S w w' _ _ hs h1, GoRep.dep S w w' _ _ hs h2⟩
structure Hop where
 To : Step
 Point : Int
 Pos : Int
 deriving DecidableEq, Inhabited
instance : GoRep Hop where
 R := Unit
 n := 4
 bytes := 32
 enc := fun r x => [.int .i64 x.To.Section, .int .i64 x.To.Dir, .int .i64 x.Point, .int .i64 x.Pos]
 ok := fun S w r x => True
 npos := by decide
 bpos := by decide
 len := fun _ _ => rfl
 one := fun r x v hv => by
  have h : [.int .i64 x.To.Section, .int .i64 x.To.Dir, .int .i64 x.Point, .int .i64 x.Pos].all Value.oneCell' = true := rfl
  exact List.all_eq_true.1 h v hv
 mono := fun _ _ _ _ _ _ h => h
 dep := fun _ _ _ _ _ _ h => h
structure Ref9_parser where
 l : Layout
 p : Plan
 periods : Int
 deriving DecidableEq, Inhabited
instance : GoRep Ref9_parser where
 R := (GoRep.R Layout) × (GoRep.R Plan)
 n := 13
 bytes := 280
 enc := fun r x => [.slice r.1.1.a x.l.Stations.length r.1.1.cap, .slice r.1.2.1.a x.l.Points.length r.1.2.1.cap, .slice r.1.2.2.1.a x.l.Sections.length r.1.2.2.1.cap, .slice r.1.2.2.2.a x.l.Links.length r.1.2.2.2.cap, .int .i64 x.p.Period, .slice r.2.1.a x.p.Stocks.length r.2.1.cap, .slice r.2.2.1.a x.p.Routes.length r.2.2.1.cap, .slice r.2.2.2.1.a x.p.Lines.length r.2.2.2.1.cap, .slice r.2.2.2.2.1.a x.p.Changes.length r.2.2.2.2.1.cap, .slice r.2.2.2.2.2.1.a x.p.Turns.length r.2.2.2.2.2.1.cap, .slice r.2.2.2.2.2.2.1.a x.p.Syncs.length r.2.2.2.2.2.2.1.cap, .slice r.2.2.2.2.2.2.2.a x.p.Demands.length r.2.2.2.2.2.2.2.cap, .int .i64 x.periods]
 ok := fun S w r x => GoRep.ok S w r.1 x.l ∧ GoRep.ok S w r.2 x.p
 npos := by decide
 bpos := by decide
 len := fun _ _ => rfl
 one := fun r x v hv => by
  have h : [.slice r.1.1.a x.l.Stations.length r.1.1.cap, .slice r.1.2.1.a x.l.Points.length r.1.2.1.cap, .slice r.1.2.2.1.a x.l.Sections.length r.1.2.2.1.cap, .slice r.1.2.2.2.a x.l.Links.length r.1.2.2.2.cap, .int .i64 x.p.Period, .slice r.2.1.a x.p.Stocks.length r.2.1.cap, .slice r.2.2.1.a x.p.Routes.length r.2.2.1.cap, .slice r.2.2.2.1.a x.p.Lines.length r.2.2.2.1.cap, .slice r.2.2.2.2.1.a x.p.Changes.length r.2.2.2.2.1.cap, .slice r.2.2.2.2.2.1.a x.p.Turns.length r.2.2.2.2.2.1.cap, .slice r.2.2.2.2.2.2.1.a x.p.Syncs.length r.2.2.2.2.2.2.1.cap, .slice r.2.2.2.2.2.2.2.a x.p.Demands.length r.2.2.2.2.2.2.2.cap, .int .i64 x.periods].all Value.oneCell' = true := rfl
  exact List.all_eq_true.1 h v hv
 mono := fun S S' w r x hs ⟨h0, h1⟩ => ⟨GoRep.mono S S' w _ _ hs h0, GoRep.mono S S' w _ _ hs h1⟩
 dep := fun S w w' r x hs ⟨h0, h1⟩ => ⟨GoRep.dep S w w' _ _ hs h0, GoRep.dep S w w' _ _ hs h1⟩
end Go.Proofs.YtcalibhfgdncaaaGreatDoor

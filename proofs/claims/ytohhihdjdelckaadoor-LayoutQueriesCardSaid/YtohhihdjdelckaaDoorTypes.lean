/- The program's types as plain data. -/
import Derived.Test.YtohhihdjdelckaaDoorChecked
import Derived.Test.YtohhihdjdelckaaDoorDm
set_option linter.all false
namespace Go.Proofs.YtohhihdjdelckaaDoor
open Go.Dc Go.RowKit
set_option maxRecDepth 10000
structure Word where
  Text : Str
  Line : Int
  Col : Int
  deriving DecidableEq, Inhabited
instance : GoRep Word where
  R := Unit
  n := 3
  bytes := 32
  enc := fun r x => [.string x.Text.ba, .int .i64 x.Line, .int .i64 x.Col]
  ok := fun S w r x => True
  npos := by decide
  bpos := by decide
  len := fun _ _ => rfl
  one := fun r x v hv => by
    have h : [.string x.Text.ba, .int .i64 x.Line, .int .i64 x.Col].all Value.oneCell' = true := rfl
    exact List.all_eq_true.1 h v hv
  mono := fun _ _ _ _ _ _ h => h
  dep := fun _ _ _ _ _ _ h => h
structure Section where
  Name : Str
  Length : Int
  Limit : Int
  Grade : Int
  Station : Int
  deriving DecidableEq, Inhabited
instance : GoRep Section where
  R := Unit
  n := 5
  bytes := 48
  enc := fun r x => [.string x.Name.ba, .int .i64 x.Length, .int .i64 x.Limit, .int .i64 x.Grade, .int .i64 x.Station]
  ok := fun S w r x => True
  npos := by decide
  bpos := by decide
  len := fun _ _ => rfl
  one := fun r x v hv => by
    have h : [.string x.Name.ba, .int .i64 x.Length, .int .i64 x.Limit, .int .i64 x.Grade, .int .i64 x.Station].all Value.oneCell' = true := rfl
    exact List.all_eq_true.1 h v hv
  mono := fun _ _ _ _ _ _ h => h
  dep := fun _ _ _ _ _ _ h => h
structure Link where
  A : Int
  AEnd : Int
  B : Int
  BEnd : Int
  Point : Int
  Pos : Int
  deriving DecidableEq, Inhabited
instance : GoRep Link where
  R := Unit
  n := 6
  bytes := 48
  enc := fun r x => [.int .i64 x.A, .int .i64 x.AEnd, .int .i64 x.B, .int .i64 x.BEnd, .int .i64 x.Point, .int .i64 x.Pos]
  ok := fun S w r x => True
  npos := by decide
  bpos := by decide
  len := fun _ _ => rfl
  one := fun r x v hv => by
    have h : [.int .i64 x.A, .int .i64 x.AEnd, .int .i64 x.B, .int .i64 x.BEnd, .int .i64 x.Point, .int .i64 x.Pos].all Value.oneCell' = true := rfl
    exact List.all_eq_true.1 h v hv
  mono := fun _ _ _ _ _ _ h => h
  dep := fun _ _ _ _ _ _ h => h
structure Layout where
  Stations : List Str
  Points : List Str
  Sections : List Section
  Links : List Link
  deriving DecidableEq, Inhabited
instance : GoRep Layout where
  R := (GoRep.R (List Str)) × (GoRep.R (List Str)) × (GoRep.R (List Section)) × (GoRep.R (List Link))
  n := 4
  bytes := 96
  enc := fun r x => [.slice r.1.a x.Stations.length r.1.cap, .slice r.2.1.a x.Points.length r.2.1.cap, .slice r.2.2.1.a x.Sections.length r.2.2.1.cap, .slice r.2.2.2.a x.Links.length r.2.2.2.cap]
  ok := fun S w r x => GoRep.ok S w r.1 x.Stations ∧ GoRep.ok S w r.2.1 x.Points ∧ GoRep.ok S w r.2.2.1 x.Sections ∧ GoRep.ok S w r.2.2.2 x.Links
  npos := by decide
  bpos := by decide
  len := fun _ _ => rfl
  one := fun r x v hv => by
    have h : [.slice r.1.a x.Stations.length r.1.cap, .slice r.2.1.a x.Points.length r.2.1.cap, .slice r.2.2.1.a x.Sections.length r.2.2.1.cap, .slice r.2.2.2.a x.Links.length r.2.2.2.cap].all Value.oneCell' = true := rfl
    exact List.all_eq_true.1 h v hv
  mono := fun S S' w r x hs ⟨h0, h1, h2, h3⟩ => ⟨GoRep.mono S S' w _ _ hs h0, GoRep.mono S S' w _ _ hs h1, GoRep.mono S S' w _ _ hs h2, GoRep.mono S S' w _ _ hs h3⟩
  dep := fun S w w' r x hs ⟨h0, h1, h2, h3⟩ => ⟨GoRep.dep S w w' _ _ hs h0, GoRep.dep S w w' _ _ hs h1, GoRep.dep S w w' _ _ hs h2, GoRep.dep S w w' _ _ hs h3⟩

structure Ref1_end where
  section_ : Int
  end_ : Int
  deriving DecidableEq, Inhabited
instance : GoRep Ref1_end where
  R := Unit
  n := 2
  bytes := 16
  enc := fun r x => [.int .i64 x.section_, .int .i64 x.end_]
  ok := fun S w r x => True
  npos := by decide
  bpos := by decide
  len := fun _ _ => rfl
  one := fun r x v hv => by
    have h : [.int .i64 x.section_, .int .i64 x.end_].all Value.oneCell' = true := rfl
    exact List.all_eq_true.1 h v hv
  mono := fun _ _ _ _ _ _ h => h
  dep := fun _ _ _ _ _ _ h => h
theorem Ref1_end_eqv (x y : Ref1_end) : decide (x = y) = true ↔ ([.int .i64 x.section_, .int .i64 x.end_] : List Value) = [.int .i64 y.section_, .int .i64 y.end_] := by
  constructor
  · intro h; rw [of_decide_eq_true h]
  · intro h
    obtain ⟨a_1, a_2⟩ := x
    obtain ⟨b_1, b_2⟩ := y
    simp only [List.cons.injEq, Value.int.injEq, Value.bool.injEq, Value.string.injEq, Str.ba_iff, true_and, and_true] at h
    simp only [decide_eq_true_eq, Ref1_end.mk.injEq]
    simp_all

structure Step where
  Section : Int
  Dir : Int
  deriving DecidableEq, Inhabited
instance : GoRep Step where
  R := Unit
  n := 2
  bytes := 16
  enc := fun r x => [.int .i64 x.Section, .int .i64 x.Dir]
  ok := fun S w r x => True
  npos := by decide
  bpos := by decide
  len := fun _ _ => rfl
  one := fun r x v hv => by
    have h : [.int .i64 x.Section, .int .i64 x.Dir].all Value.oneCell' = true := rfl
    exact List.all_eq_true.1 h v hv
  mono := fun _ _ _ _ _ _ h => h
  dep := fun _ _ _ _ _ _ h => h
theorem Step_eqv (x y : Step) : decide (x = y) = true ↔ ([.int .i64 x.Section, .int .i64 x.Dir] : List Value) = [.int .i64 y.Section, .int .i64 y.Dir] := by
  constructor
  · intro h; rw [of_decide_eq_true h]
  · intro h
    obtain ⟨a_1, a_2⟩ := x
    obtain ⟨b_1, b_2⟩ := y
    simp only [List.cons.injEq, Value.int.injEq, Value.bool.injEq, Value.string.injEq, Str.ba_iff, true_and, and_true] at h
    simp only [decide_eq_true_eq, Step.mk.injEq]
    simp_all

structure Hop where
  To : Step
  Point : Int
  Pos : Int
  deriving DecidableEq, Inhabited
instance : GoRep Hop where
  R := Unit
  n := 4
  bytes := 32
  enc := fun r x => [.int .i64 x.To.Section, .int .i64 x.To.Dir, .int .i64 x.Point, .int .i64 x.Pos]
  ok := fun S w r x => True
  npos := by decide
  bpos := by decide
  len := fun _ _ => rfl
  one := fun r x v hv => by
    have h : [.int .i64 x.To.Section, .int .i64 x.To.Dir, .int .i64 x.Point, .int .i64 x.Pos].all Value.oneCell' = true := rfl
    exact List.all_eq_true.1 h v hv
  mono := fun _ _ _ _ _ _ h => h
  dep := fun _ _ _ _ _ _ h => h
theorem Hop_eqv (x y : Hop) : decide (x = y) = true ↔ ([.int .i64 x.To.Section, .int .i64 x.To.Dir, .int .i64 x.Point, .int .i64 x.Pos] : List Value) = [.int .i64 y.To.Section, .int .i64 y.To.Dir, .int .i64 y.Point, .int .i64 y.Pos] := by
  constructor
  · intro h; rw [of_decide_eq_true h]
  · intro h
    obtain ⟨⟨a_1_1, a_1_2⟩, a_2, a_3⟩ := x
    obtain ⟨⟨b_1_1, b_1_2⟩, b_2, b_3⟩ := y
    simp only [List.cons.injEq, Value.int.injEq, Value.bool.injEq, Value.string.injEq, Str.ba_iff, true_and, and_true] at h
    simp [decide_eq_true_eq]
    simp_all

structure Layout_end where
  section_ : Int
  side : Int
  deriving DecidableEq, Inhabited
instance : GoRep Layout_end where
  R := Unit
  n := 2
  bytes := 16
  enc := fun r x => [.int .i64 x.section_, .int .i64 x.side]
  ok := fun S w r x => True
  npos := by decide
  bpos := by decide
  len := fun _ _ => rfl
  one := fun r x v hv => by
    have h : [.int .i64 x.section_, .int .i64 x.side].all Value.oneCell' = true := rfl
    exact List.all_eq_true.1 h v hv
  mono := fun _ _ _ _ _ _ h => h
  dep := fun _ _ _ _ _ _ h => h
theorem Layout_end_eqv (x y : Layout_end) : decide (x = y) = true ↔ ([.int .i64 x.section_, .int .i64 x.side] : List Value) = [.int .i64 y.section_, .int .i64 y.side] := by
  constructor
  · intro h; rw [of_decide_eq_true h]
  · intro h
    obtain ⟨a_1, a_2⟩ := x
    obtain ⟨b_1, b_2⟩ := y
    simp only [List.cons.injEq, Value.int.injEq, Value.bool.injEq, Value.string.injEq, Str.ba_iff, true_and, and_true] at h
    simp only [decide_eq_true_eq, Layout_end.mk.injEq]
    simp_all

structure Keep_Source where
  l : List Int
  i : Int
  deriving DecidableEq, Inhabited
instance : GoRep Keep_Source where
  R := (GoRep.R (List Int))
  n := 2
  bytes := 32
  enc := fun r x => [.slice r.a x.l.length r.cap, .int .i64 x.i]
  ok := fun S w r x => GoRep.ok S w r x.l
  npos := by decide
  bpos := by decide
  len := fun _ _ => rfl
  one := fun r x v hv => by
    have h : [.slice r.a x.l.length r.cap, .int .i64 x.i].all Value.oneCell' = true := rfl
    exact List.all_eq_true.1 h v hv
  mono := fun S S' w r x hs h => GoRep.mono S S' w _ _ hs h
  dep := fun S w w' r x hs h => GoRep.dep S w w' _ _ hs h

structure Keep_builder where
  l : Layout
  tracks : List (List Int)
  between : List (List Int)
  westward : List (List Int)
  deriving DecidableEq, Inhabited
instance : GoRep Keep_builder where
  R := (GoRep.R Layout) × (GoRep.R (List (List Int))) × (GoRep.R (List (List Int))) × (GoRep.R (List (List Int)))
  n := 7
  bytes := 168
  enc := fun r x => [.slice r.1.1.a x.l.Stations.length r.1.1.cap, .slice r.1.2.1.a x.l.Points.length r.1.2.1.cap, .slice r.1.2.2.1.a x.l.Sections.length r.1.2.2.1.cap, .slice r.1.2.2.2.a x.l.Links.length r.1.2.2.2.cap, .slice r.2.1.a x.tracks.length r.2.1.cap, .slice r.2.2.1.a x.between.length r.2.2.1.cap, .slice r.2.2.2.a x.westward.length r.2.2.2.cap]
  ok := fun S w r x => GoRep.ok S w r.1 x.l ∧ GoRep.ok S w r.2.1 x.tracks ∧ GoRep.ok S w r.2.2.1 x.between ∧ GoRep.ok S w r.2.2.2 x.westward
  npos := by decide
  bpos := by decide
  len := fun _ _ => rfl
  one := fun r x v hv => by
    have h : [.slice r.1.1.a x.l.Stations.length r.1.1.cap, .slice r.1.2.1.a x.l.Points.length r.1.2.1.cap, .slice r.1.2.2.1.a x.l.Sections.length r.1.2.2.1.cap, .slice r.1.2.2.2.a x.l.Links.length r.1.2.2.2.cap, .slice r.2.1.a x.tracks.length r.2.1.cap, .slice r.2.2.1.a x.between.length r.2.2.1.cap, .slice r.2.2.2.a x.westward.length r.2.2.2.cap].all Value.oneCell' = true := rfl
    exact List.all_eq_true.1 h v hv
  mono := fun S S' w r x hs ⟨h0, h1, h2, h3⟩ => ⟨GoRep.mono S S' w _ _ hs h0, GoRep.mono S S' w _ _ hs h1, GoRep.mono S S' w _ _ hs h2, GoRep.mono S S' w _ _ hs h3⟩
  dep := fun S w w' r x hs ⟨h0, h1, h2, h3⟩ => ⟨GoRep.dep S w w' _ _ hs h0, GoRep.dep S w w' _ _ hs h1, GoRep.dep S w w' _ _ hs h2, GoRep.dep S w w' _ _ hs h3⟩
end Go.Proofs.YtohhihdjdelckaaDoor

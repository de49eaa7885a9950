/- The program's types as plain data. -/
import Derived.Test.YtcalibhfgdncaaaGreatDoorChecked
import Derived.Test.YtcalibhfgdncaaaGreatDoorDn
set_option linter.all false
namespace Go.Proofs.YtcalibhfgdncaaaGreatDoor
open Go.Dc Go.RowKit
set_option maxRecDepth 10000
structure Section where
 Name : Str
 Length : Int
 Limit : Int
 iE : Int
 mE : Int
 deriving DecidableEq, Inhabited
instance : ak Section where
 R := Unit
 n := 5
 bytes := 48
 enc := fun r x => [.string x.Name.ba, .int .i64 x.Length, .int .i64 x.Limit, .int .i64 x.iE, .int .i64 x.mE]
 ok := fun S w r x => True
 npos := by decide
 bpos := by decide
 len := fun _ _ => rfl
 one := fun r x v hv => by
  have h : [.string x.Name.ba, .int .i64 x.Length, .int .i64 x.Limit, .int .i64 x.iE, .int .i64 x.mE].all Value.oneCell' = true := rfl
  exact List.all_eq_true.1 h v hv
 mono := fun _ _ _ _ _ _ h => h
 dep := fun _ _ _ _ _ _ h => h
structure Link where
 A : Int
 bY : Int
 B : Int
 dx : Int
 Point : Int
 Pos : Int
 deriving DecidableEq, Inhabited
instance : ak Link where
 R := Unit
 n := 6
 bytes := 48
 enc := fun r x => [.int .i64 x.A, .int .i64 x.bY, .int .i64 x.B, .int .i64 x.dx, .int .i64 x.Point, .int .i64 x.Pos]
 ok := fun S w r x => True
 npos := by decide
 bpos := by decide
 len := fun _ _ => rfl
 one := fun r x v hv => by
  have h : [.int .i64 x.A, .int .i64 x.bY, .int .i64 x.B, .int .i64 x.dx, .int .i64 x.Point, .int .i64 x.Pos].all Value.oneCell' = true := rfl
  exact List.all_eq_true.1 h v hv
 mono := fun _ _ _ _ _ _ h => h
 dep := fun _ _ _ _ _ _ h => h
structure Layout where
 aX : List Str
 bF : List Str
 Sections : List Section
 Links : List Link
 deriving DecidableEq, Inhabited
instance : ak Layout where
 R := (ak.R (List Str)) × (ak.R (List Str)) × (ak.R (List Section)) × (ak.R (List Link))
 n := 4
 bytes := 96
 enc := fun r x => [.slice r.1.a x.aX.length r.1.cap, .slice r.2.1.a x.bF.length r.2.1.cap, .slice r.2.2.1.a x.Sections.length r.2.2.1.cap, .slice r.2.2.2.a x.Links.length r.2.2.2.cap]
 ok := fun S w r x => ak.ok S w r.1 x.aX ∧ ak.ok S w r.2.1 x.bF ∧ ak.ok S w r.2.2.1 x.Sections ∧ ak.ok S w r.2.2.2 x.Links
 npos := by decide
 bpos := by decide
 len := fun _ _ => rfl
 one := fun r x v hv => by
  have h : [.slice r.1.a x.aX.length r.1.cap, .slice r.2.1.a x.bF.length r.2.1.cap, .slice r.2.2.1.a x.Sections.length r.2.2.1.cap, .slice r.2.2.2.a x.Links.length r.2.2.2.cap].all Value.oneCell' = true := rfl
  exact List.all_eq_true.1 h v hv
 mono := fun S S' w r x hs ⟨h0, h1, h2, h3⟩ => ⟨ak.mono S S' w _ _ hs h0, ak.mono S S' w _ _ hs h1, ak.mono S S' w _ _ hs h2, ak.mono S S' w _ _ hs h3⟩
 dep := fun S w w' r x hs ⟨h0, h1, h2, h3⟩ => ⟨ak.dep S w w' _ _ hs h0, ak.dep S w w' _ _ hs h1, ak.dep S w w' _ _ hs h2, ak.dep S w w' _ _ hs h3⟩
structure Word where
 Text : Str
 Line : Int
 Col : Int
 deriving DecidableEq, Inhabited
instance : ak Word where
 R := Unit
 n := 3
 bytes := 32
 enc := fun r x => [.string x.Text.ba, .int .i64 x.Line, .int .i64 x.Col]
 ok := fun S w r x => True
 npos := by decide
 bpos := by decide
 len := fun _ _ => rfl
 one := fun r x v hv => by
  have h : [.string x.Text.ba, .int .i64 x.Line, .int .i64 x.Col].all Value.oneCell' = true := rfl
  exact List.all_eq_true.1 h v hv
 mono := fun _ _ _ _ _ _ h => h
 dep := fun _ _ _ _ _ _ h => h
structure kL where
 eH : Int
 end_ : Int
 deriving DecidableEq, Inhabited
instance : ak kL where
 R := Unit
 n := 2
 bytes := 16
 enc := fun r x => [.int .i64 x.eH, .int .i64 x.end_]
 ok := fun S w r x => True
 npos := by decide
 bpos := by decide
 len := fun _ _ => rfl
 one := fun r x v hv => by
  have h : [.int .i64 x.eH, .int .i64 x.end_].all Value.oneCell' = true := rfl
  exact List.all_eq_true.1 h v hv
 mono := fun _ _ _ _ _ _ h => h
 dep := fun _ _ _ _ _ _ h => h
theorem aao (x y : kL) : decide (x = y) = true ↔ ([.int .i64 x.eH, .int .i64 x.end_] : List Value) = [.int .i64 y.eH, .int .i64 y.end_] := by
 constructor
 ·intro h; rw [of_decide_eq_true h]
 ·intro h
  obtain ⟨a_1, a_2⟩ := x
  obtain ⟨b_1, U4⟩ := y
  simp only [List.cons.injEq, Value.int.injEq, Value.bool.injEq, Value.string.injEq, Str.OQ, true_and, and_true] at h
  simp only [decide_eq_true_eq, kL.mk.injEq]
  simp_all
structure Step where
 Section : Int
 Dir : Int
 deriving DecidableEq, Inhabited
instance : ak Step where
 R := Unit
 n := 2
 bytes := 16
 enc := fun r x => [.int .i64 x.Section, .int .i64 x.Dir]
 ok := fun S w r x => True
 npos := by decide
 bpos := by decide
 len := fun _ _ => rfl
 one := fun r x v hv => by
  have h : [.int .i64 x.Section, .int .i64 x.Dir].all Value.oneCell' = true := rfl
  exact List.all_eq_true.1 h v hv
 mono := fun _ _ _ _ _ _ h => h
 dep := fun _ _ _ _ _ _ h => h
theorem aap (x y : Step) : decide (x = y) = true ↔ ([.int .i64 x.Section, .int .i64 x.Dir] : List Value) = [.int .i64 y.Section, .int .i64 y.Dir] := by
 constructor
 ·intro h; rw [of_decide_eq_true h]
 ·intro h
  obtain ⟨a_1, a_2⟩ := x
  obtain ⟨b_1, U4⟩ := y
  simp only [List.cons.injEq, Value.int.injEq, Value.bool.injEq, Value.string.injEq, Str.OQ, true_and, and_true] at h
  simp only [decide_eq_true_eq, Step.mk.injEq]
  simp_all
structure jB where
 eH : Int
 side : Int
 deriving DecidableEq, Inhabited
instance : ak jB where
 R := Unit
 n := 2
 bytes := 16
 enc := fun r x => [.int .i64 x.eH, .int .i64 x.side]
 ok := fun S w r x => True
 npos := by decide
 bpos := by decide
 len := fun _ _ => rfl
 one := fun r x v hv => by
  have h : [.int .i64 x.eH, .int .i64 x.side].all Value.oneCell' = true := rfl
  exact List.all_eq_true.1 h v hv
 mono := fun _ _ _ _ _ _ h => h
 dep := fun _ _ _ _ _ _ h => h
theorem LU (x y : jB) : decide (x = y) = true ↔ ([.int .i64 x.eH, .int .i64 x.side] : List Value) = [.int .i64 y.eH, .int .i64 y.side] := by
 constructor
 ·intro h; rw [of_decide_eq_true h]
 ·intro h
  obtain ⟨a_1, a_2⟩ := x
  obtain ⟨b_1, U4⟩ := y
  simp only [List.cons.injEq, Value.int.injEq, Value.bool.injEq, Value.string.injEq, Str.OQ, true_and, and_true] at h
  simp only [decide_eq_true_eq, jB.mk.injEq]
  simp_all
structure aV where
 Steps : List Step
 Overlap : Int
 deriving DecidableEq, Inhabited
instance : ak aV where
 R := (ak.R (List Step))
 n := 2
 bytes := 32
 enc := fun r x => [.slice r.a x.Steps.length r.cap, .int .i64 x.Overlap]
 ok := fun S w r x => ak.ok S w r x.Steps
 npos := by decide
 bpos := by decide
 len := fun _ _ => rfl
 one := fun r x v hv => by
  have h : [.slice r.a x.Steps.length r.cap, .int .i64 x.Overlap].all Value.oneCell' = true := rfl
  exact List.all_eq_true.1 h v hv
 mono := fun S S' w r x hs h => ak.mono S S' w _ _ hs h
 dep := fun S w w' r x hs h => ak.dep S w w' _ _ hs h
structure Cell where
 Limit : Int
 iE : Int
 deriving DecidableEq, Inhabited
instance : ak Cell where
 R := Unit
 n := 2
 bytes := 16
 enc := fun r x => [.int .i64 x.Limit, .int .i64 x.iE]
 ok := fun S w r x => True
 npos := by decide
 bpos := by decide
 len := fun _ _ => rfl
 one := fun r x v hv => by
  have h : [.int .i64 x.Limit, .int .i64 x.iE].all Value.oneCell' = true := rfl
  exact List.all_eq_true.1 h v hv
 mono := fun _ _ _ _ _ _ h => h
 dep := fun _ _ _ _ _ _ h => h
structure Ur where
 l : List Int
 i : Int
 deriving DecidableEq, Inhabited
instance : ak Ur where
 R := (ak.R (List Int))
 n := 2
 bytes := 32
 enc := fun r x => [.slice r.a x.l.length r.cap, .int .i64 x.i]
 ok := fun S w r x => ak.ok S w r x.l
 npos := by decide
 bpos := by decide
 len := fun _ _ => rfl
 one := fun r x v hv => by
  have h : [.slice r.a x.l.length r.cap, .int .i64 x.i].all Value.oneCell' = true := rfl
  exact List.all_eq_true.1 h v hv
 mono := fun S S' w r x hs h => ak.mono S S' w _ _ hs h
 dep := fun S w w' r x hs h => ak.dep S w w' _ _ hs h
structure Us where
 l : Layout
 tracks : List (List Int)
 between : List (List Int)
 Oh : List (List Int)
 deriving DecidableEq, Inhabited
instance : ak Us where
 R := (ak.R Layout) × (ak.R (List (List Int))) × (ak.R (List (List Int))) × (ak.R (List (List Int)))
 n := 7
 bytes := 168
 enc := fun r x => [.slice r.1.1.a x.l.aX.length r.1.1.cap, .slice r.1.2.1.a x.l.bF.length r.1.2.1.cap, .slice r.1.2.2.1.a x.l.Sections.length r.1.2.2.1.cap, .slice r.1.2.2.2.a x.l.Links.length r.1.2.2.2.cap, .slice r.2.1.a x.tracks.length r.2.1.cap, .slice r.2.2.1.a x.between.length r.2.2.1.cap, .slice r.2.2.2.a x.Oh.length r.2.2.2.cap]
 ok := fun S w r x => ak.ok S w r.1 x.l ∧ ak.ok S w r.2.1 x.tracks ∧ ak.ok S w r.2.2.1 x.between ∧ ak.ok S w r.2.2.2 x.Oh
 npos := by decide
 bpos := by decide
 len := fun _ _ => rfl
 one := fun r x v hv => by
  have h : [.slice r.1.1.a x.l.aX.length r.1.1.cap, .slice r.1.2.1.a x.l.bF.length r.1.2.1.cap, .slice r.1.2.2.1.a x.l.Sections.length r.1.2.2.1.cap, .slice r.1.2.2.2.a x.l.Links.length r.1.2.2.2.cap, .slice r.2.1.a x.tracks.length r.2.1.cap, .slice r.2.2.1.a x.between.length r.2.2.1.cap, .slice r.2.2.2.a x.Oh.length r.2.2.2.cap].all Value.oneCell' = true := rfl
  exact List.all_eq_true.1 h v hv
 mono := fun S S' w r x hs ⟨h0, h1, h2, h3⟩ => ⟨ak.mono S S' w _ _ hs h0, ak.mono S S' w _ _ hs h1, ak.mono S S' w _ _ hs h2, ak.mono S S' w _ _ hs h3⟩
 dep := fun S w w' r x hs ⟨h0, h1, h2, h3⟩ => ⟨ak.dep S w w' _ _ hs h0, ak.dep S w w' _ _ hs h1, ak.dep S w w' _ _ hs h2, ak.dep S w w' _ _ hs h3⟩
structure bL where
 Name : Str
 Length : Int
 lI : Int
 lF : Int
 lG : Int
 deriving DecidableEq, Inhabited
instance : ak bL where
 R := Unit
 n := 5
 bytes := 48
 enc := fun r x => [.string x.Name.ba, .int .i64 x.Length, .int .i64 x.lI, .int .i64 x.lF, .int .i64 x.lG]
 ok := fun S w r x => True
 npos := by decide
 bpos := by decide
 len := fun _ _ => rfl
 one := fun r x v hv => by
  have h : [.string x.Name.ba, .int .i64 x.Length, .int .i64 x.lI, .int .i64 x.lF, .int .i64 x.lG].all Value.oneCell' = true := rfl
  exact List.all_eq_true.1 h v hv
 mono := fun _ _ _ _ _ _ h => h
 dep := fun _ _ _ _ _ _ h => h
structure nT where
 cells : List Cell
 first : Int
 deriving DecidableEq, Inhabited
instance : ak nT where
 R := (ak.R (List Cell))
 n := 2
 bytes := 32
 enc := fun r x => [.slice r.a x.cells.length r.cap, .int .i64 x.first]
 ok := fun S w r x => ak.ok S w r x.cells
 npos := by decide
 bpos := by decide
 len := fun _ _ => rfl
 one := fun r x v hv => by
  have h : [.slice r.a x.cells.length r.cap, .int .i64 x.first].all Value.oneCell' = true := rfl
  exact List.all_eq_true.1 h v hv
 mono := fun S S' w r x hs h => ak.mono S S' w _ _ hs h
 dep := fun S w w' r x hs h => ak.dep S w w' _ _ hs h
structure fV where
 aV : Int
 Extra : Int
 Min : Int
 Max : Int
 deriving DecidableEq, Inhabited
instance : ak fV where
 R := Unit
 n := 4
 bytes := 32
 enc := fun r x => [.int .i64 x.aV, .int .i64 x.Extra, .int .i64 x.Min, .int .i64 x.Max]
 ok := fun S w r x => True
 npos := by decide
 bpos := by decide
 len := fun _ _ => rfl
 one := fun r x v hv => by
  have h : [.int .i64 x.aV, .int .i64 x.Extra, .int .i64 x.Min, .int .i64 x.Max].all Value.oneCell' = true := rfl
  exact List.all_eq_true.1 h v hv
 mono := fun _ _ _ _ _ _ h => h
 dep := fun _ _ _ _ _ _ h => h
structure Line where
 Name : Str
 bL : Int
 Weight : Int
 bq : List fV
 deriving DecidableEq, Inhabited
instance : ak Line where
 R := (ak.R (List fV))
 n := 4
 bytes := 56
 enc := fun r x => [.string x.Name.ba, .int .i64 x.bL, .int .i64 x.Weight, .slice r.a x.bq.length r.cap]
 ok := fun S w r x => ak.ok S w r x.bq
 npos := by decide
 bpos := by decide
 len := fun _ _ => rfl
 one := fun r x v hv => by
  have h : [.string x.Name.ba, .int .i64 x.bL, .int .i64 x.Weight, .slice r.a x.bq.length r.cap].all Value.oneCell' = true := rfl
  exact List.all_eq_true.1 h v hv
 mono := fun S S' w r x hs h => ak.mono S S' w _ _ hs h
 dep := fun S w w' r x hs h => ak.dep S w w' _ _ hs h
instance : Inner Line fV where
 get := fun x => x.bq
 rep := fun r => r
 okI := fun _ _ _ _ h => h
structure Change where
 dX : Int
 fG : Int
 fK : Int
 iN : Int
 Min : Int
 Max : Int
 Weight : Int
 deriving DecidableEq, Inhabited
instance : ak Change where
 R := Unit
 n := 7
 bytes := 56
 enc := fun r x => [.int .i64 x.dX, .int .i64 x.fG, .int .i64 x.fK, .int .i64 x.iN, .int .i64 x.Min, .int .i64 x.Max, .int .i64 x.Weight]
 ok := fun S w r x => True
 npos := by decide
 bpos := by decide
 len := fun _ _ => rfl
 one := fun r x v hv => by
  have h : [.int .i64 x.dX, .int .i64 x.fG, .int .i64 x.fK, .int .i64 x.iN, .int .i64 x.Min, .int .i64 x.Max, .int .i64 x.Weight].all Value.oneCell' = true := rfl
  exact List.all_eq_true.1 h v hv
 mono := fun _ _ _ _ _ _ h => h
 dep := fun _ _ _ _ _ _ h => h
structure Turn where
 From : Int
 To : Int
 Min : Int
 Max : Int
 deriving DecidableEq, Inhabited
instance : ak Turn where
 R := Unit
 n := 4
 bytes := 32
 enc := fun r x => [.int .i64 x.From, .int .i64 x.To, .int .i64 x.Min, .int .i64 x.Max]
 ok := fun S w r x => True
 npos := by decide
 bpos := by decide
 len := fun _ _ => rfl
 one := fun r x v hv => by
  have h : [.int .i64 x.From, .int .i64 x.To, .int .i64 x.Min, .int .i64 x.Max].all Value.oneCell' = true := rfl
  exact List.all_eq_true.1 h v hv
 mono := fun _ _ _ _ _ _ h => h
 dep := fun _ _ _ _ _ _ h => h
structure Sync where
 jA : Int
 jc : Int
 jF : Int
 jh : Int
 Offset : Int
 deriving DecidableEq, Inhabited
instance : ak Sync where
 R := Unit
 n := 5
 bytes := 40
 enc := fun r x => [.int .i64 x.jA, .int .i64 x.jc, .int .i64 x.jF, .int .i64 x.jh, .int .i64 x.Offset]
 ok := fun S w r x => True
 npos := by decide
 bpos := by decide
 len := fun _ _ => rfl
 one := fun r x v hv => by
  have h : [.int .i64 x.jA, .int .i64 x.jc, .int .i64 x.jF, .int .i64 x.jh, .int .i64 x.Offset].all Value.oneCell' = true := rfl
  exact List.all_eq_true.1 h v hv
 mono := fun _ _ _ _ _ _ h => h
 dep := fun _ _ _ _ _ _ h => h
structure oD where
 From : Int
 To : Int
 Weight : Int
 deriving DecidableEq, Inhabited
instance : ak oD where
 R := Unit
 n := 3
 bytes := 24
 enc := fun r x => [.int .i64 x.From, .int .i64 x.To, .int .i64 x.Weight]
 ok := fun S w r x => True
 npos := by decide
 bpos := by decide
 len := fun _ _ => rfl
 one := fun r x v hv => by
  have h : [.int .i64 x.From, .int .i64 x.To, .int .i64 x.Weight].all Value.oneCell' = true := rfl
  exact List.all_eq_true.1 h v hv
 mono := fun _ _ _ _ _ _ h => h
 dep := fun _ _ _ _ _ _ h => h
structure Plan where
 dW : Int
 aY : List bL
 Routes : List aV
 Lines : List Line
 Changes : List Change
 Turns : List Turn
 bT : List Sync
 bS : List oD
 deriving DecidableEq, Inhabited
instance : ak Plan where
 R := (ak.R (List bL)) × (ak.R (List aV)) × (ak.R (List Line)) × (ak.R (List Change)) × (ak.R (List Turn)) × (ak.R (List Sync)) × (ak.R (List oD))
 n := 8
 bytes := 176
 enc := fun r x => [.int .i64 x.dW, .slice r.1.a x.aY.length r.1.cap, .slice r.2.1.a x.Routes.length r.2.1.cap, .slice r.2.2.1.a x.Lines.length r.2.2.1.cap, .slice r.2.2.2.1.a x.Changes.length r.2.2.2.1.cap, .slice r.2.2.2.2.1.a x.Turns.length r.2.2.2.2.1.cap, .slice r.2.2.2.2.2.1.a x.bT.length r.2.2.2.2.2.1.cap, .slice r.2.2.2.2.2.2.a x.bS.length r.2.2.2.2.2.2.cap]
 ok := fun S w r x => ak.ok S w r.1 x.aY ∧ ak.ok S w r.2.1 x.Routes ∧ ak.ok S w r.2.2.1 x.Lines ∧ ak.ok S w r.2.2.2.1 x.Changes ∧ ak.ok S w r.2.2.2.2.1 x.Turns ∧ ak.ok S w r.2.2.2.2.2.1 x.bT ∧ ak.ok S w r.2.2.2.2.2.2 x.bS
 npos := by decide
 bpos := by decide
 len := fun _ _ => rfl
 one := fun r x v hv => by
  have h : [.int .i64 x.dW, .slice r.1.a x.aY.length r.1.cap, .slice r.2.1.a x.Routes.length r.2.1.cap, .slice r.2.2.1.a x.Lines.length r.2.2.1.cap, .slice r.2.2.2.1.a x.Changes.length r.2.2.2.1.cap, .slice r.2.2.2.2.1.a x.Turns.length r.2.2.2.2.1.cap, .slice r.2.2.2.2.2.1.a x.bT.length r.2.2.2.2.2.1.cap, .slice r.2.2.2.2.2.2.a x.bS.length r.2.2.2.2.2.2.cap].all Value.oneCell' = true := rfl
  exact List.all_eq_true.1 h v hv
 mono := fun S S' w r x hs ⟨h0, h1, h2, h3, h4, h5, h6⟩ => ⟨ak.mono S S' w _ _ hs h0, ak.mono S S' w _ _ hs h1, ak.mono S S' w _ _ hs h2, ak.mono S S' w _ _ hs h3, ak.mono S S' w _ _ hs h4, ak.mono S S' w _ _ hs h5, ak.mono S S' w _ _ hs h6⟩
 dep := fun S w w' r x hs ⟨h0, h1, h2, h3, h4, h5, h6⟩ => ⟨ak.dep S w w' _ _ hs h0, ak.dep S w w' _ _ hs h1, ak.dep S w w' _ _ hs h2, ak.dep S w w' _ _ hs h3, ak.dep S w w' _ _ hs h4, ak.dep S w w' _ _ hs h5, ak.dep S w w' _ _ hs h6⟩
instance : ak Any where
 R := Unit
 n := 1
 bytes := 16
 enc := fun _ x => [xB 9 3 x]
 ok := fun _ _ _ _ => True
 npos := Nat.one_pos
 bpos := by omega
 len := fun _ _ => rfl
 one := fun _ x v hv => by simp at hv; subst hv; cases x <;> rfl
 mono := fun _ _ _ _ _ _ h => h
 dep := fun _ _ _ _ _ _ h => h
structure jg where
 lines : List (List Str)
 deriving DecidableEq, Inhabited
instance : ak jg where
 R := (ak.R (List (List Str)))
 n := 1
 bytes := 24
 enc := fun r x => [.slice r.a x.lines.length r.cap]
 ok := fun S w r x => ak.ok S w r x.lines
 npos := by decide
 bpos := by decide
 len := fun _ _ => rfl
 one := fun r x v hv => by
  have h : [.slice r.a x.lines.length r.cap].all Value.oneCell' = true := rfl
  exact List.all_eq_true.1 h v hv
 mono := fun S S' w r x hs h => ak.mono S S' w _ _ hs h
 dep := fun S w w' r x hs h => ak.dep S w w' _ _ hs h
structure Uw where
 l : Layout
 p : Plan
 period : Bool
 w : List Str
 e : Int
 deriving DecidableEq, Inhabited
instance : ak Uw where
 R := (ak.R Layout) × (ak.R Plan) × (ak.R (List Str))
 n := 15
 bytes := 312
 enc := fun r x => [.slice r.1.1.a x.l.aX.length r.1.1.cap, .slice r.1.2.1.a x.l.bF.length r.1.2.1.cap, .slice r.1.2.2.1.a x.l.Sections.length r.1.2.2.1.cap, .slice r.1.2.2.2.a x.l.Links.length r.1.2.2.2.cap, .int .i64 x.p.dW, .slice r.2.1.1.a x.p.aY.length r.2.1.1.cap, .slice r.2.1.2.1.a x.p.Routes.length r.2.1.2.1.cap, .slice r.2.1.2.2.1.a x.p.Lines.length r.2.1.2.2.1.cap, .slice r.2.1.2.2.2.1.a x.p.Changes.length r.2.1.2.2.2.1.cap, .slice r.2.1.2.2.2.2.1.a x.p.Turns.length r.2.1.2.2.2.2.1.cap, .slice r.2.1.2.2.2.2.2.1.a x.p.bT.length r.2.1.2.2.2.2.2.1.cap, .slice r.2.1.2.2.2.2.2.2.a x.p.bS.length r.2.1.2.2.2.2.2.2.cap, .bool x.period, .slice r.2.2.a x.w.length r.2.2.cap, .int .i64 x.e]
 ok := fun S w r x => ak.ok S w r.1 x.l ∧ ak.ok S w r.2.1 x.p ∧ ak.ok S w r.2.2 x.w
 npos := by decide
 bpos := by decide
 len := fun _ _ => rfl
 one := fun r x v hv => by
  have h : [.slice r.1.1.a x.l.aX.length r.1.1.cap, .slice r.1.2.1.a x.l.bF.length r.1.2.1.cap, .slice r.1.2.2.1.a x.l.Sections.length r.1.2.2.1.cap, .slice r.1.2.2.2.a x.l.Links.length r.1.2.2.2.cap, .int .i64 x.p.dW, .slice r.2.1.1.a x.p.aY.length r.2.1.1.cap, .slice r.2.1.2.1.a x.p.Routes.length r.2.1.2.1.cap, .slice r.2.1.2.2.1.a x.p.Lines.length r.2.1.2.2.1.cap, .slice r.2.1.2.2.2.1.a x.p.Changes.length r.2.1.2.2.2.1.cap, .slice r.2.1.2.2.2.2.1.a x.p.Turns.length r.2.1.2.2.2.2.1.cap, .slice r.2.1.2.2.2.2.2.1.a x.p.bT.length r.2.1.2.2.2.2.2.1.cap, .slice r.2.1.2.2.2.2.2.2.a x.p.bS.length r.2.1.2.2.2.2.2.2.cap, .bool x.period, .slice r.2.2.a x.w.length r.2.2.cap, .int .i64 x.e].all Value.oneCell' = true := rfl
  exact List.all_eq_true.1 h v hv
 mono := fun S S' w r x hs ⟨h0, h1, h2⟩ => ⟨ak.mono S S' w _ _ hs h0, ak.mono S S' w _ _ hs h1, ak.mono S S' w _ _ hs h2⟩
 dep := fun S w w' r x hs ⟨h0, h1, h2⟩ => ⟨ak.dep S w w' _ _ hs h0, ak.dep S w w' _ _ hs h1, ak.dep S w w' _ _ hs h2⟩
structure Hop where
 To : Step
 Point : Int
 Pos : Int
 deriving DecidableEq, Inhabited
instance : ak Hop where
 R := Unit
 n := 4
 bytes := 32
 enc := fun r x => [.int .i64 x.To.Section, .int .i64 x.To.Dir, .int .i64 x.Point, .int .i64 x.Pos]
 ok := fun S w r x => True
 npos := by decide
 bpos := by decide
 len := fun _ _ => rfl
 one := fun r x v hv => by
  have h : [.int .i64 x.To.Section, .int .i64 x.To.Dir, .int .i64 x.Point, .int .i64 x.Pos].all Value.oneCell' = true := rfl
  exact List.all_eq_true.1 h v hv
 mono := fun _ _ _ _ _ _ h => h
 dep := fun _ _ _ _ _ _ h => h
structure Ux where
 l : Layout
 p : Plan
 periods : Int
 deriving DecidableEq, Inhabited
instance : ak Ux where
 R := (ak.R Layout) × (ak.R Plan)
 n := 13
 bytes := 280
 enc := fun r x => [.slice r.1.1.a x.l.aX.length r.1.1.cap, .slice r.1.2.1.a x.l.bF.length r.1.2.1.cap, .slice r.1.2.2.1.a x.l.Sections.length r.1.2.2.1.cap, .slice r.1.2.2.2.a x.l.Links.length r.1.2.2.2.cap, .int .i64 x.p.dW, .slice r.2.1.a x.p.aY.length r.2.1.cap, .slice r.2.2.1.a x.p.Routes.length r.2.2.1.cap, .slice r.2.2.2.1.a x.p.Lines.length r.2.2.2.1.cap, .slice r.2.2.2.2.1.a x.p.Changes.length r.2.2.2.2.1.cap, .slice r.2.2.2.2.2.1.a x.p.Turns.length r.2.2.2.2.2.1.cap, .slice r.2.2.2.2.2.2.1.a x.p.bT.length r.2.2.2.2.2.2.1.cap, .slice r.2.2.2.2.2.2.2.a x.p.bS.length r.2.2.2.2.2.2.2.cap, .int .i64 x.periods]
 ok := fun S w r x => ak.ok S w r.1 x.l ∧ ak.ok S w r.2 x.p
 npos := by decide
 bpos := by decide
 len := fun _ _ => rfl
 one := fun r x v hv => by
  have h : [.slice r.1.1.a x.l.aX.length r.1.1.cap, .slice r.1.2.1.a x.l.bF.length r.1.2.1.cap, .slice r.1.2.2.1.a x.l.Sections.length r.1.2.2.1.cap, .slice r.1.2.2.2.a x.l.Links.length r.1.2.2.2.cap, .int .i64 x.p.dW, .slice r.2.1.a x.p.aY.length r.2.1.cap, .slice r.2.2.1.a x.p.Routes.length r.2.2.1.cap, .slice r.2.2.2.1.a x.p.Lines.length r.2.2.2.1.cap, .slice r.2.2.2.2.1.a x.p.Changes.length r.2.2.2.2.1.cap, .slice r.2.2.2.2.2.1.a x.p.Turns.length r.2.2.2.2.2.1.cap, .slice r.2.2.2.2.2.2.1.a x.p.bT.length r.2.2.2.2.2.2.1.cap, .slice r.2.2.2.2.2.2.2.a x.p.bS.length r.2.2.2.2.2.2.2.cap, .int .i64 x.periods].all Value.oneCell' = true := rfl
  exact List.all_eq_true.1 h v hv
 mono := fun S S' w r x hs ⟨h0, h1⟩ => ⟨ak.mono S S' w _ _ hs h0, ak.mono S S' w _ _ hs h1⟩
 dep := fun S w w' r x hs ⟨h0, h1⟩ => ⟨ak.dep S w w' _ _ hs h0, ak.dep S w w' _ _ hs h1⟩
abbrev yg (x : Section) : List Value := [.string x.Name.ba, vI x.Length, vI x.Limit, vI x.iE, vI x.mE]
abbrev nC (x : Link) : List Value := [vI x.A, vI x.bY, vI x.B, vI x.dx, vI x.Point, vI x.Pos]
abbrev aar (x : Link) : Array Value := (nC x).toArray
abbrev bK (x : Layout) (r : ak.R Layout) : List Value := [sL r.1 x.aX, sL r.2.1 x.bF, sL r.2.2.1 x.Sections, sL r.2.2.2 x.Links]
abbrev iy (x : Layout) (r : ak.R Layout) : Array Value := (bK x r).toArray
abbrev JD (x : kL) : List Value := [vI x.eH, vI x.end_]
abbrev Uy (x : kL) : Array Value := (JD x).toArray
abbrev kK (x : Step) : List Value := [vI x.Section, vI x.Dir]
abbrev xw (x : Step) : Array Value := (kK x).toArray
abbrev iD (x : jB) : List Value := [vI x.eH, vI x.side]
abbrev aas (x : jB) : Array Value := (iD x).toArray
abbrev gJ (x : aV) (r : ak.R aV) : List Value := [sL r x.Steps, vI x.Overlap]
abbrev qM (x : aV) (r : ak.R aV) : Array Value := (gJ x r).toArray
abbrev mg (x : bL) : List Value := [.string x.Name.ba, vI x.Length, vI x.lI, vI x.lF, vI x.lG]
abbrev Bb (x : bL) : Array Value := (mg x).toArray
abbrev Xw (x : nT) (r : ak.R nT) : List Value := [sL r x.cells, vI x.first]
abbrev OL (x : nT) (r : ak.R nT) : Array Value := (Xw x r).toArray
abbrev p8 (x : fV) : List Value := [vI x.aV, vI x.Extra, vI x.Min, vI x.Max]
abbrev Uz (x : fV) : Array Value := (p8 x).toArray
abbrev iW (x : Line) (r : ak.R Line) : List Value := [.string x.Name.ba, vI x.bL, vI x.Weight, sL r x.bq]
abbrev OM (x : Line) (r : ak.R Line) : Array Value := (iW x r).toArray
abbrev wO (x : Change) : List Value := [vI x.dX, vI x.fG, vI x.fK, vI x.iN, vI x.Min, vI x.Max, vI x.Weight]
abbrev aaq (x : Change) : Array Value := (wO x).toArray
abbrev oo (x : Turn) : List Value := [vI x.From, vI x.To, vI x.Min, vI x.Max]
abbrev UA (x : Turn) : Array Value := (oo x).toArray
abbrev yh (x : Sync) : List Value := [vI x.jA, vI x.jc, vI x.jF, vI x.jh, vI x.Offset]
abbrev yc (x : oD) : List Value := [vI x.From, vI x.To, vI x.Weight]
abbrev dO (x : Plan) (r : ak.R Plan) : List Value := [vI x.dW, sL r.1 x.aY, sL r.2.1 x.Routes, sL r.2.2.1 x.Lines, sL r.2.2.2.1 x.Changes, sL r.2.2.2.2.1 x.Turns, sL r.2.2.2.2.2.1 x.bT, sL r.2.2.2.2.2.2 x.bS]
abbrev jT (x : Plan) (r : ak.R Plan) : Array Value := (dO x r).toArray
abbrev Ab (x : jg) (r : ak.R jg) : List Value := [sL r x.lines]
abbrev JC (x : Hop) : List Value := [vI x.To.Section, vI x.To.Dir, vI x.Point, vI x.Pos]
abbrev Hl (x : Hop) : Array Value := (JC x).toArray
end Go.Proofs.YtcalibhfgdncaaaGreatDoor
namespace Go.Dc
open Go.Proofs.YtcalibhfgdncaaaGreatDoor Go.RowKit
theorem Mem.jw {S : bD} {w : World} {cs H : List Chunk} {r : ak.R Layout} {x : Layout} (hm : Mem (rP w S cs) H w) (h : ak.ok S w r x) : Mem (rP w S cs) (dJ (α := List Link) r.2.2.2 x.Links :: dJ (α := List Section) r.2.2.1 x.Sections :: dJ (α := List Str) r.2.1 x.bF :: dJ (α := List Str) r.1 x.aX :: H) w :=
 hm |>.gQ (α := List Str) (r := r.1) (x := x.aX) h.1 |>.gQ (α := List Str) (r := r.2.1) (x := x.bF) h.2.1 |>.gQ (α := List Section) (r := r.2.2.1) (x := x.Sections) h.2.2.1 |>.gQ (α := List Link) (r := r.2.2.2) (x := x.Links) h.2.2.2
theorem Mem.kD {S : bD} {w : World} {cs H : List Chunk} {r : ak.R Plan} {x : Plan} (hm : Mem (rP w S cs) H w) (h : ak.ok S w r x) : Mem (rP w S cs) (dJ (α := List oD) r.2.2.2.2.2.2 x.bS :: dJ (α := List Sync) r.2.2.2.2.2.1 x.bT :: dJ (α := List Turn) r.2.2.2.2.1 x.Turns :: dJ (α := List Change) r.2.2.2.1 x.Changes :: dJ (α := List Line) r.2.2.1 x.Lines :: dJ (α := List aV) r.2.1 x.Routes :: dJ (α := List bL) r.1 x.aY :: H) w :=
 hm |>.gQ (α := List bL) (r := r.1) (x := x.aY) h.1 |>.gQ (α := List aV) (r := r.2.1) (x := x.Routes) h.2.1 |>.gQ (α := List Line) (r := r.2.2.1) (x := x.Lines) h.2.2.1 |>.gQ (α := List Change) (r := r.2.2.2.1) (x := x.Changes) h.2.2.2.1 |>.gQ (α := List Turn) (r := r.2.2.2.2.1) (x := x.Turns) h.2.2.2.2.1 |>.gQ (α := List Sync) (r := r.2.2.2.2.2.1) (x := x.bT) h.2.2.2.2.2.1 |>.gQ (α := List oD) (r := r.2.2.2.2.2.2) (x := x.bS) h.2.2.2.2.2.2
end Go.Dc

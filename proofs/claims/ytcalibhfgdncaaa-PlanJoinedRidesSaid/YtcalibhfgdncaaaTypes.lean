/- The program's types as plain data. -/
import Derived.Test.YtcalibhfgdncaaaChecked
import Derived.Test.YtcalibhfgdncaaaDn
set_option linter.all false
namespace Go.Proofs.Ytcalibhfgdncaaa
open Go.Dc Go.RowKit
set_option maxRecDepth 10000
structure Section where
 Name : Str
 Length : Int
 Limit : Int
 jT : Int
 og : Int
 deriving DecidableEq, Inhabited
instance : aj Section where
 R := Unit
 n := 5
 bytes := 48
 enc := fun r x => [.string x.Name.ba, .int .i64 x.Length, .int .i64 x.Limit, .int .i64 x.jT, .int .i64 x.og]
 ok := fun S w r x => True
 npos := by decide
 bpos := by decide
 len := fun _ _ => rfl
 one := fun r x v hv => by
  have h : [.string x.Name.ba, .int .i64 x.Length, .int .i64 x.Limit, .int .i64 x.jT, .int .i64 x.og].all Value.oneCell' = true := rfl
  exact List.all_eq_true.1 h v hv
 mono := fun _ _ _ _ _ _ h => h
 dep := fun _ _ _ _ _ _ h => h
structure Link where
 A : Int
 jR : Int
 B : Int
 jS : Int
 Point : Int
 Pos : Int
 deriving DecidableEq, Inhabited
instance : aj Link where
 R := Unit
 n := 6
 bytes := 48
 enc := fun r x => [.int .i64 x.A, .int .i64 x.jR, .int .i64 x.B, .int .i64 x.jS, .int .i64 x.Point, .int .i64 x.Pos]
 ok := fun S w r x => True
 npos := by decide
 bpos := by decide
 len := fun _ _ => rfl
 one := fun r x v hv => by
  have h : [.int .i64 x.A, .int .i64 x.jR, .int .i64 x.B, .int .i64 x.jS, .int .i64 x.Point, .int .i64 x.Pos].all Value.oneCell' = true := rfl
  exact List.all_eq_true.1 h v hv
 mono := fun _ _ _ _ _ _ h => h
 dep := fun _ _ _ _ _ _ h => h
structure Layout where
 aQ : List Str
 aR : List Str
 Sections : List Section
 Links : List Link
 deriving DecidableEq, Inhabited
instance : aj Layout where
 R := (aj.R (List Str)) × (aj.R (List Str)) × (aj.R (List Section)) × (aj.R (List Link))
 n := 4
 bytes := 96
 enc := fun r x => [.slice r.1.a x.aQ.length r.1.cap, .slice r.2.1.a x.aR.length r.2.1.cap, .slice r.2.2.1.a x.Sections.length r.2.2.1.cap, .slice r.2.2.2.a x.Links.length r.2.2.2.cap]
 ok := fun S w r x => aj.ok S w r.1 x.aQ ∧ aj.ok S w r.2.1 x.aR ∧ aj.ok S w r.2.2.1 x.Sections ∧ aj.ok S w r.2.2.2 x.Links
 npos := by decide
 bpos := by decide
 len := fun _ _ => rfl
 one := fun r x v hv => by
  have h : [.slice r.1.a x.aQ.length r.1.cap, .slice r.2.1.a x.aR.length r.2.1.cap, .slice r.2.2.1.a x.Sections.length r.2.2.1.cap, .slice r.2.2.2.a x.Links.length r.2.2.2.cap].all Value.oneCell' = true := rfl
  exact List.all_eq_true.1 h v hv
 mono := fun S S' w r x hs ⟨h0, h1, h2, h3⟩ => ⟨aj.mono S S' w _ _ hs h0, aj.mono S S' w _ _ hs h1, aj.mono S S' w _ _ hs h2, aj.mono S S' w _ _ hs h3⟩
 dep := fun S w w' r x hs ⟨h0, h1, h2, h3⟩ => ⟨aj.dep S w w' _ _ hs h0, aj.dep S w w' _ _ hs h1, aj.dep S w w' _ _ hs h2, aj.dep S w w' _ _ hs h3⟩
structure Word where
 Text : Str
 Line : Int
 Col : Int
 deriving DecidableEq, Inhabited
instance : aj Word where
 R := Unit
 n := 3
 bytes := 32
 enc := fun r x => [.string x.Text.ba, .int .i64 x.Line, .int .i64 x.Col]
 ok := fun S w r x => True
 npos := by decide
 bpos := by decide
 len := fun _ _ => rfl
 one := fun r x v hv => by
  have h : [.string x.Text.ba, .int .i64 x.Line, .int .i64 x.Col].all Value.oneCell' = true := rfl
  exact List.all_eq_true.1 h v hv
 mono := fun _ _ _ _ _ _ h => h
 dep := fun _ _ _ _ _ _ h => h
structure nN where
 fZ : Int
 end_ : Int
 deriving DecidableEq, Inhabited
instance : aj nN where
 R := Unit
 n := 2
 bytes := 16
 enc := fun r x => [.int .i64 x.fZ, .int .i64 x.end_]
 ok := fun S w r x => True
 npos := by decide
 bpos := by decide
 len := fun _ _ => rfl
 one := fun r x v hv => by
  have h : [.int .i64 x.fZ, .int .i64 x.end_].all Value.oneCell' = true := rfl
  exact List.all_eq_true.1 h v hv
 mono := fun _ _ _ _ _ _ h => h
 dep := fun _ _ _ _ _ _ h => h
theorem XU (x y : nN) : decide (x = y) = true ↔ ([.int .i64 x.fZ, .int .i64 x.end_] : List Value) = [.int .i64 y.fZ, .int .i64 y.end_] := by
 constructor
 ·intro h; rw [of_decide_eq_true h]
 ·intro h
  obtain ⟨a_1, a_2⟩ := x
  obtain ⟨b_1, X7⟩ := y
  simp only [List.cons.injEq, Value.int.injEq, Value.bool.injEq, Value.string.injEq, Str.SK, true_and, and_true] at h
  simp only [decide_eq_true_eq, nN.mk.injEq]
  simp_all
structure Step where
 Section : Int
 Dir : Int
 deriving DecidableEq, Inhabited
instance : aj Step where
 R := Unit
 n := 2
 bytes := 16
 enc := fun r x => [.int .i64 x.Section, .int .i64 x.Dir]
 ok := fun S w r x => True
 npos := by decide
 bpos := by decide
 len := fun _ _ => rfl
 one := fun r x v hv => by
  have h : [.int .i64 x.Section, .int .i64 x.Dir].all Value.oneCell' = true := rfl
  exact List.all_eq_true.1 h v hv
 mono := fun _ _ _ _ _ _ h => h
 dep := fun _ _ _ _ _ _ h => h
structure ku where
 fZ : Int
 side : Int
 deriving DecidableEq, Inhabited
instance : aj ku where
 R := Unit
 n := 2
 bytes := 16
 enc := fun r x => [.int .i64 x.fZ, .int .i64 x.side]
 ok := fun S w r x => True
 npos := by decide
 bpos := by decide
 len := fun _ _ => rfl
 one := fun r x v hv => by
  have h : [.int .i64 x.fZ, .int .i64 x.side].all Value.oneCell' = true := rfl
  exact List.all_eq_true.1 h v hv
 mono := fun _ _ _ _ _ _ h => h
 dep := fun _ _ _ _ _ _ h => h
theorem JU (x y : ku) : decide (x = y) = true ↔ ([.int .i64 x.fZ, .int .i64 x.side] : List Value) = [.int .i64 y.fZ, .int .i64 y.side] := by
 constructor
 ·intro h; rw [of_decide_eq_true h]
 ·intro h
  obtain ⟨a_1, a_2⟩ := x
  obtain ⟨b_1, X7⟩ := y
  simp only [List.cons.injEq, Value.int.injEq, Value.bool.injEq, Value.string.injEq, Str.SK, true_and, and_true] at h
  simp only [decide_eq_true_eq, ku.mk.injEq]
  simp_all
structure aI where
 Steps : List Step
 Overlap : Int
 deriving DecidableEq, Inhabited
instance : aj aI where
 R := (aj.R (List Step))
 n := 2
 bytes := 32
 enc := fun r x => [.slice r.a x.Steps.length r.cap, .int .i64 x.Overlap]
 ok := fun S w r x => aj.ok S w r x.Steps
 npos := by decide
 bpos := by decide
 len := fun _ _ => rfl
 one := fun r x v hv => by
  have h : [.slice r.a x.Steps.length r.cap, .int .i64 x.Overlap].all Value.oneCell' = true := rfl
  exact List.all_eq_true.1 h v hv
 mono := fun S S' w r x hs h => aj.mono S S' w _ _ hs h
 dep := fun S w w' r x hs h => aj.dep S w w' _ _ hs h
structure Cell where
 Limit : Int
 jT : Int
 deriving DecidableEq, Inhabited
instance : aj Cell where
 R := Unit
 n := 2
 bytes := 16
 enc := fun r x => [.int .i64 x.Limit, .int .i64 x.jT]
 ok := fun S w r x => True
 npos := by decide
 bpos := by decide
 len := fun _ _ => rfl
 one := fun r x v hv => by
  have h : [.int .i64 x.Limit, .int .i64 x.jT].all Value.oneCell' = true := rfl
  exact List.all_eq_true.1 h v hv
 mono := fun _ _ _ _ _ _ h => h
 dep := fun _ _ _ _ _ _ h => h
structure bW where
 l : List Int
 i : Int
 deriving DecidableEq, Inhabited
instance : aj bW where
 R := (aj.R (List Int))
 n := 2
 bytes := 32
 enc := fun r x => [.slice r.a x.l.length r.cap, .int .i64 x.i]
 ok := fun S w r x => aj.ok S w r x.l
 npos := by decide
 bpos := by decide
 len := fun _ _ => rfl
 one := fun r x v hv => by
  have h : [.slice r.a x.l.length r.cap, .int .i64 x.i].all Value.oneCell' = true := rfl
  exact List.all_eq_true.1 h v hv
 mono := fun S S' w r x hs h => aj.mono S S' w _ _ hs h
 dep := fun S w w' r x hs h => aj.dep S w w' _ _ hs h
structure dG where
 l : Layout
 tracks : List (List Int)
 between : List (List Int)
 bf : List (List Int)
 deriving DecidableEq, Inhabited
instance : aj dG where
 R := (aj.R Layout) × (aj.R (List (List Int))) × (aj.R (List (List Int))) × (aj.R (List (List Int)))
 n := 7
 bytes := 168
 enc := fun r x => [.slice r.1.1.a x.l.aQ.length r.1.1.cap, .slice r.1.2.1.a x.l.aR.length r.1.2.1.cap, .slice r.1.2.2.1.a x.l.Sections.length r.1.2.2.1.cap, .slice r.1.2.2.2.a x.l.Links.length r.1.2.2.2.cap, .slice r.2.1.a x.tracks.length r.2.1.cap, .slice r.2.2.1.a x.between.length r.2.2.1.cap, .slice r.2.2.2.a x.bf.length r.2.2.2.cap]
 ok := fun S w r x => aj.ok S w r.1 x.l ∧ aj.ok S w r.2.1 x.tracks ∧ aj.ok S w r.2.2.1 x.between ∧ aj.ok S w r.2.2.2 x.bf
 npos := by decide
 bpos := by decide
 len := fun _ _ => rfl
 one := fun r x v hv => by
  have h : [.slice r.1.1.a x.l.aQ.length r.1.1.cap, .slice r.1.2.1.a x.l.aR.length r.1.2.1.cap, .slice r.1.2.2.1.a x.l.Sections.length r.1.2.2.1.cap, .slice r.1.2.2.2.a x.l.Links.length r.1.2.2.2.cap, .slice r.2.1.a x.tracks.length r.2.1.cap, .slice r.2.2.1.a x.between.length r.2.2.1.cap, .slice r.2.2.2.a x.bf.length r.2.2.2.cap].all Value.oneCell' = true := rfl
  exact List.all_eq_true.1 h v hv
 mono := fun S S' w r x hs ⟨h0, h1, h2, h3⟩ => ⟨aj.mono S S' w _ _ hs h0, aj.mono S S' w _ _ hs h1, aj.mono S S' w _ _ hs h2, aj.mono S S' w _ _ hs h3⟩
 dep := fun S w w' r x hs ⟨h0, h1, h2, h3⟩ => ⟨aj.dep S w w' _ _ hs h0, aj.dep S w w' _ _ hs h1, aj.dep S w w' _ _ hs h2, aj.dep S w w' _ _ hs h3⟩
structure av where
 Name : Str
 Length : Int
 zU : Int
 zM : Int
 zO : Int
 deriving DecidableEq, Inhabited
instance : aj av where
 R := Unit
 n := 5
 bytes := 48
 enc := fun r x => [.string x.Name.ba, .int .i64 x.Length, .int .i64 x.zU, .int .i64 x.zM, .int .i64 x.zO]
 ok := fun S w r x => True
 npos := by decide
 bpos := by decide
 len := fun _ _ => rfl
 one := fun r x v hv => by
  have h : [.string x.Name.ba, .int .i64 x.Length, .int .i64 x.zU, .int .i64 x.zM, .int .i64 x.zO].all Value.oneCell' = true := rfl
  exact List.all_eq_true.1 h v hv
 mono := fun _ _ _ _ _ _ h => h
 dep := fun _ _ _ _ _ _ h => h
structure qb where
 cells : List Cell
 first : Int
 deriving DecidableEq, Inhabited
instance : aj qb where
 R := (aj.R (List Cell))
 n := 2
 bytes := 32
 enc := fun r x => [.slice r.a x.cells.length r.cap, .int .i64 x.first]
 ok := fun S w r x => aj.ok S w r x.cells
 npos := by decide
 bpos := by decide
 len := fun _ _ => rfl
 one := fun r x v hv => by
  have h : [.slice r.a x.cells.length r.cap, .int .i64 x.first].all Value.oneCell' = true := rfl
  exact List.all_eq_true.1 h v hv
 mono := fun S S' w r x hs h => aj.mono S S' w _ _ hs h
 dep := fun S w w' r x hs h => aj.dep S w w' _ _ hs h
structure aC where
 aI : Int
 Extra : Int
 Min : Int
 Max : Int
 deriving DecidableEq, Inhabited
instance : aj aC where
 R := Unit
 n := 4
 bytes := 32
 enc := fun r x => [.int .i64 x.aI, .int .i64 x.Extra, .int .i64 x.Min, .int .i64 x.Max]
 ok := fun S w r x => True
 npos := by decide
 bpos := by decide
 len := fun _ _ => rfl
 one := fun r x v hv => by
  have h : [.int .i64 x.aI, .int .i64 x.Extra, .int .i64 x.Min, .int .i64 x.Max].all Value.oneCell' = true := rfl
  exact List.all_eq_true.1 h v hv
 mono := fun _ _ _ _ _ _ h => h
 dep := fun _ _ _ _ _ _ h => h
structure Line where
 Name : Str
 av : Int
 Weight : Int
 ay : List aC
 deriving DecidableEq, Inhabited
instance : aj Line where
 R := (aj.R (List aC))
 n := 4
 bytes := 56
 enc := fun r x => [.string x.Name.ba, .int .i64 x.av, .int .i64 x.Weight, .slice r.a x.ay.length r.cap]
 ok := fun S w r x => aj.ok S w r x.ay
 npos := by decide
 bpos := by decide
 len := fun _ _ => rfl
 one := fun r x v hv => by
  have h : [.string x.Name.ba, .int .i64 x.av, .int .i64 x.Weight, .slice r.a x.ay.length r.cap].all Value.oneCell' = true := rfl
  exact List.all_eq_true.1 h v hv
 mono := fun S S' w r x hs h => aj.mono S S' w _ _ hs h
 dep := fun S w w' r x hs h => aj.dep S w w' _ _ hs h
structure Change where
 kr : Int
 nC : Int
 mq : Int
 qh : Int
 Min : Int
 Max : Int
 Weight : Int
 deriving DecidableEq, Inhabited
instance : aj Change where
 R := Unit
 n := 7
 bytes := 56
 enc := fun r x => [.int .i64 x.kr, .int .i64 x.nC, .int .i64 x.mq, .int .i64 x.qh, .int .i64 x.Min, .int .i64 x.Max, .int .i64 x.Weight]
 ok := fun S w r x => True
 npos := by decide
 bpos := by decide
 len := fun _ _ => rfl
 one := fun r x v hv => by
  have h : [.int .i64 x.kr, .int .i64 x.nC, .int .i64 x.mq, .int .i64 x.qh, .int .i64 x.Min, .int .i64 x.Max, .int .i64 x.Weight].all Value.oneCell' = true := rfl
  exact List.all_eq_true.1 h v hv
 mono := fun _ _ _ _ _ _ h => h
 dep := fun _ _ _ _ _ _ h => h
structure Turn where
 From : Int
 To : Int
 Min : Int
 Max : Int
 deriving DecidableEq, Inhabited
instance : aj Turn where
 R := Unit
 n := 4
 bytes := 32
 enc := fun r x => [.int .i64 x.From, .int .i64 x.To, .int .i64 x.Min, .int .i64 x.Max]
 ok := fun S w r x => True
 npos := by decide
 bpos := by decide
 len := fun _ _ => rfl
 one := fun r x v hv => by
  have h : [.int .i64 x.From, .int .i64 x.To, .int .i64 x.Min, .int .i64 x.Max].all Value.oneCell' = true := rfl
  exact List.all_eq_true.1 h v hv
 mono := fun _ _ _ _ _ _ h => h
 dep := fun _ _ _ _ _ _ h => h
structure Sync where
 qc : Int
 qd : Int
 qH : Int
 qI : Int
 Offset : Int
 deriving DecidableEq, Inhabited
instance : aj Sync where
 R := Unit
 n := 5
 bytes := 40
 enc := fun r x => [.int .i64 x.qc, .int .i64 x.qd, .int .i64 x.qH, .int .i64 x.qI, .int .i64 x.Offset]
 ok := fun S w r x => True
 npos := by decide
 bpos := by decide
 len := fun _ _ => rfl
 one := fun r x v hv => by
  have h : [.int .i64 x.qc, .int .i64 x.qd, .int .i64 x.qH, .int .i64 x.qI, .int .i64 x.Offset].all Value.oneCell' = true := rfl
  exact List.all_eq_true.1 h v hv
 mono := fun _ _ _ _ _ _ h => h
 dep := fun _ _ _ _ _ _ h => h
structure aX where
 From : Int
 To : Int
 Weight : Int
 deriving DecidableEq, Inhabited
instance : aj aX where
 R := Unit
 n := 3
 bytes := 24
 enc := fun r x => [.int .i64 x.From, .int .i64 x.To, .int .i64 x.Weight]
 ok := fun S w r x => True
 npos := by decide
 bpos := by decide
 len := fun _ _ => rfl
 one := fun r x v hv => by
  have h : [.int .i64 x.From, .int .i64 x.To, .int .i64 x.Weight].all Value.oneCell' = true := rfl
  exact List.all_eq_true.1 h v hv
 mono := fun _ _ _ _ _ _ h => h
 dep := fun _ _ _ _ _ _ h => h
structure Plan where
 bL : Int
 aT : List av
 Routes : List aI
 Lines : List Line
 Changes : List Change
 Turns : List Turn
 aV : List Sync
 aZ : List aX
 deriving DecidableEq, Inhabited
instance : aj Plan where
 R := (aj.R (List av)) × (aj.R (List aI)) × (aj.R (List Line)) × (aj.R (List Change)) × (aj.R (List Turn)) × (aj.R (List Sync)) × (aj.R (List aX))
 n := 8
 bytes := 176
 enc := fun r x => [.int .i64 x.bL, .slice r.1.a x.aT.length r.1.cap, .slice r.2.1.a x.Routes.length r.2.1.cap, .slice r.2.2.1.a x.Lines.length r.2.2.1.cap, .slice r.2.2.2.1.a x.Changes.length r.2.2.2.1.cap, .slice r.2.2.2.2.1.a x.Turns.length r.2.2.2.2.1.cap, .slice r.2.2.2.2.2.1.a x.aV.length r.2.2.2.2.2.1.cap, .slice r.2.2.2.2.2.2.a x.aZ.length r.2.2.2.2.2.2.cap]
 ok := fun S w r x => aj.ok S w r.1 x.aT ∧ aj.ok S w r.2.1 x.Routes ∧ aj.ok S w r.2.2.1 x.Lines ∧ aj.ok S w r.2.2.2.1 x.Changes ∧ aj.ok S w r.2.2.2.2.1 x.Turns ∧ aj.ok S w r.2.2.2.2.2.1 x.aV ∧ aj.ok S w r.2.2.2.2.2.2 x.aZ
 npos := by decide
 bpos := by decide
 len := fun _ _ => rfl
 one := fun r x v hv => by
  have h : [.int .i64 x.bL, .slice r.1.a x.aT.length r.1.cap, .slice r.2.1.a x.Routes.length r.2.1.cap, .slice r.2.2.1.a x.Lines.length r.2.2.1.cap, .slice r.2.2.2.1.a x.Changes.length r.2.2.2.1.cap, .slice r.2.2.2.2.1.a x.Turns.length r.2.2.2.2.1.cap, .slice r.2.2.2.2.2.1.a x.aV.length r.2.2.2.2.2.1.cap, .slice r.2.2.2.2.2.2.a x.aZ.length r.2.2.2.2.2.2.cap].all Value.oneCell' = true := rfl
  exact List.all_eq_true.1 h v hv
 mono := fun S S' w r x hs ⟨h0, h1, h2, h3, h4, h5, h6⟩ => ⟨aj.mono S S' w _ _ hs h0, aj.mono S S' w _ _ hs h1, aj.mono S S' w _ _ hs h2, aj.mono S S' w _ _ hs h3, aj.mono S S' w _ _ hs h4, aj.mono S S' w _ _ hs h5, aj.mono S S' w _ _ hs h6⟩
 dep := fun S w w' r x hs ⟨h0, h1, h2, h3, h4, h5, h6⟩ => ⟨aj.dep S w w' _ _ hs h0, aj.dep S w w' _ _ hs h1, aj.dep S w w' _ _ hs h2, aj.dep S w w' _ _ hs h3, aj.dep S w w' _ _ hs h4, aj.dep S w w' _ _ hs h5, aj.dep S w w' _ _ hs h6⟩
abbrev zi (x : Section) : List Value := [.string x.Name.ba, vI x.Length, vI x.Limit, vI x.jT, vI x.og]
abbrev RZ (x : Section) : Array Value := (zi x).toArray
abbrev rO (x : Link) : List Value := [vI x.A, vI x.jR, vI x.B, vI x.jS, vI x.Point, vI x.Pos]
abbrev XV (x : Link) : Array Value := (rO x).toArray
abbrev fq (x : Layout) (r : aj.R Layout) : List Value := [sL r.1 x.aQ, sL r.2.1 x.aR, sL r.2.2.1 x.Sections, sL r.2.2.2 x.Links]
abbrev kX (x : Layout) (r : aj.R Layout) : Array Value := (fq x r).toArray
abbrev IC (x : nN) : List Value := [vI x.fZ, vI x.end_]
abbrev RX (x : nN) : Array Value := (IC x).toArray
abbrev qW (x : Step) : List Value := [vI x.Section, vI x.Dir]
abbrev Dp (x : Step) : Array Value := (qW x).toArray
abbrev jc (x : ku) : List Value := [vI x.fZ, vI x.side]
abbrev XW (x : ku) : Array Value := (jc x).toArray
abbrev mY (x : aI) (r : aj.R aI) : List Value := [sL r x.Steps, vI x.Overlap]
abbrev sM (x : aI) (r : aj.R aI) : Array Value := (mY x r).toArray
abbrev wI (x : bW) (r : aj.R bW) : List Value := [sL r x.l, vI x.i]
abbrev nV (x : dG) (r : aj.R dG) : List Value := [sL r.1.1 x.l.aQ, sL r.1.2.1 x.l.aR, sL r.1.2.2.1 x.l.Sections, sL r.1.2.2.2 x.l.Links, sL r.2.1 x.tracks, sL r.2.2.1 x.between, sL r.2.2.2 x.bf]
abbrev tJ (x : av) : List Value := [.string x.Name.ba, vI x.Length, vI x.zU, vI x.zM, vI x.zO]
abbrev F9 (x : av) : Array Value := (tJ x).toArray
abbrev Va (x : qb) (r : aj.R qb) : List Value := [sL r x.cells, vI x.first]
abbrev MV (x : qb) (r : aj.R qb) : Array Value := (Va x r).toArray
abbrev wJ (x : aC) : List Value := [vI x.aI, vI x.Extra, vI x.Min, vI x.Max]
abbrev RY (x : aC) : Array Value := (wJ x).toArray
abbrev oI (x : Line) (r : aj.R Line) : List Value := [.string x.Name.ba, vI x.av, vI x.Weight, sL r x.ay]
abbrev MW (x : Line) (r : aj.R Line) : Array Value := (oI x r).toArray
abbrev Vb (x : Change) : List Value := [vI x.kr, vI x.nC, vI x.mq, vI x.qh, vI x.Min, vI x.Max, vI x.Weight]
abbrev wK (x : Turn) : List Value := [vI x.From, vI x.To, vI x.Min, vI x.Max]
abbrev R3 (x : Turn) : Array Value := (wK x).toArray
abbrev Ve (x : Sync) : List Value := [vI x.qc, vI x.qd, vI x.qH, vI x.qI, vI x.Offset]
abbrev Vd (x : aX) : List Value := [vI x.From, vI x.To, vI x.Weight]
abbrev dB (x : Plan) (r : aj.R Plan) : List Value := [vI x.bL, sL r.1 x.aT, sL r.2.1 x.Routes, sL r.2.2.1 x.Lines, sL r.2.2.2.1 x.Changes, sL r.2.2.2.2.1 x.Turns, sL r.2.2.2.2.2.1 x.aV, sL r.2.2.2.2.2.2 x.aZ]
abbrev iK (x : Plan) (r : aj.R Plan) : Array Value := (dB x r).toArray
end Go.Proofs.Ytcalibhfgdncaaa
namespace Go.Dc
open Go.Proofs.Ytcalibhfgdncaaa Go.RowKit
theorem Mem.nX {S : bU} {w : World} {cs H : List Chunk} {r : aj.R Layout} {x : Layout} (hm : Mem (w9 w S cs) H w) (h : aj.ok S w r x) : Mem (w9 w S cs) (eB (α := List Link) r.2.2.2 x.Links :: eB (α := List Section) r.2.2.1 x.Sections :: eB (α := List Str) r.2.1 x.aR :: eB (α := List Str) r.1 x.aQ :: H) w :=
 hm |>.gU (α := List Str) (r := r.1) (x := x.aQ) h.1 |>.gU (α := List Str) (r := r.2.1) (x := x.aR) h.2.1 |>.gU (α := List Section) (r := r.2.2.1) (x := x.Sections) h.2.2.1 |>.gU (α := List Link) (r := r.2.2.2) (x := x.Links) h.2.2.2
theorem Mem.oJ {S : bU} {w : World} {cs H : List Chunk} {r : aj.R Plan} {x : Plan} (hm : Mem (w9 w S cs) H w) (h : aj.ok S w r x) : Mem (w9 w S cs) (eB (α := List aX) r.2.2.2.2.2.2 x.aZ :: eB (α := List Sync) r.2.2.2.2.2.1 x.aV :: eB (α := List Turn) r.2.2.2.2.1 x.Turns :: eB (α := List Change) r.2.2.2.1 x.Changes :: eB (α := List Line) r.2.2.1 x.Lines :: eB (α := List aI) r.2.1 x.Routes :: eB (α := List av) r.1 x.aT :: H) w :=
 hm |>.gU (α := List av) (r := r.1) (x := x.aT) h.1 |>.gU (α := List aI) (r := r.2.1) (x := x.Routes) h.2.1 |>.gU (α := List Line) (r := r.2.2.1) (x := x.Lines) h.2.2.1 |>.gU (α := List Change) (r := r.2.2.2.1) (x := x.Changes) h.2.2.2.1 |>.gU (α := List Turn) (r := r.2.2.2.2.1) (x := x.Turns) h.2.2.2.2.1 |>.gU (α := List Sync) (r := r.2.2.2.2.2.1) (x := x.aV) h.2.2.2.2.2.1 |>.gU (α := List aX) (r := r.2.2.2.2.2.2) (x := x.aZ) h.2.2.2.2.2.2
end Go.Dc

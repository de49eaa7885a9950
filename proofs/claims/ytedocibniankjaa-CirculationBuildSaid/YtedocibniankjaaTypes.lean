/- The program's types as plain data. -/
import Derived.Test.YtedocibniankjaaChecked
import Derived.Test.YtedocibniankjaaD12
namespace Go.Proofs.Ytedocibniankjaa
open Go.Dc Go.RowKit
set_option maxRecDepth 10000
set_option linter.unusedVariables false
structure Arc where
  From : Int
  To : Int
  Cap : Int
  Cost : Int
  deriving DecidableEq, Inhabited
instance : GoRep Arc where
  R := Unit
  n := 4
  bytes := 32
  enc := fun r x => [.int .i64 x.From, .int .i64 x.To, .int .i64 x.Cap, .int .i64 x.Cost]
  ok := fun S w r x => True
  npos := by decide
  bpos := by decide
  len := fun _ _ => rfl
  one := fun r x v hv => by
    have h : [.int .i64 x.From, .int .i64 x.To, .int .i64 x.Cap, .int .i64 x.Cost].all Value.oneCell' = true := rfl
    exact List.all_eq_true.1 h v hv
  mono := fun _ _ _ _ _ _ h => h
  dep := fun _ _ _ _ _ _ h => h

structure Graph where
  Supply : List Int
  Arcs : List Arc
  deriving DecidableEq, Inhabited
instance : GoRep Graph where
  R := (GoRep.R (List Int)) × (GoRep.R (List Arc))
  n := 2
  bytes := 48
  enc := fun r x => [.slice r.1.a x.Supply.length r.1.cap, .slice r.2.a x.Arcs.length r.2.cap]
  ok := fun S w r x => GoRep.ok S w r.1 x.Supply ∧ GoRep.ok S w r.2 x.Arcs
  npos := by decide
  bpos := by decide
  len := fun _ _ => rfl
  one := fun r x v hv => by
    have h : [.slice r.1.a x.Supply.length r.1.cap, .slice r.2.a x.Arcs.length r.2.cap].all Value.oneCell' = true := rfl
    exact List.all_eq_true.1 h v hv
  mono := fun S S' w r x hs ⟨h0, h1⟩ => ⟨GoRep.mono S S' w _ _ hs h0, GoRep.mono S S' w _ _ hs h1⟩
  dep := fun S w w' r x hs ⟨h0, h1⟩ => ⟨GoRep.dep S w w' _ _ hs h0, GoRep.dep S w w' _ _ hs h1⟩

structure Keep_Source where
  l : List Int
  i : Int
  deriving DecidableEq, Inhabited
instance : GoRep Keep_Source where
  R := (GoRep.R (List Int))
  n := 2
  bytes := 32
  enc := fun r x => [.slice r.a x.l.length r.cap, .int .i64 x.i]
  ok := fun S w r x => GoRep.ok S w r x.l
  npos := by decide
  bpos := by decide
  len := fun _ _ => rfl
  one := fun r x v hv => by
    have h : [.slice r.a x.l.length r.cap, .int .i64 x.i].all Value.oneCell' = true := rfl
    exact List.all_eq_true.1 h v hv
  mono := fun S S' w r x hs h => GoRep.mono S S' w _ _ hs h
  dep := fun S w w' r x hs h => GoRep.dep S w w' _ _ hs h

structure Flow where
  X : List Int
  Price : List Int
  Cost : Int
  deriving DecidableEq, Inhabited
instance : GoRep Flow where
  R := (GoRep.R (List Int)) × (GoRep.R (List Int))
  n := 3
  bytes := 56
  enc := fun r x => [.slice r.1.a x.X.length r.1.cap, .slice r.2.a x.Price.length r.2.cap, .int .i64 x.Cost]
  ok := fun S w r x => GoRep.ok S w r.1 x.X ∧ GoRep.ok S w r.2 x.Price
  npos := by decide
  bpos := by decide
  len := fun _ _ => rfl
  one := fun r x v hv => by
    have h : [.slice r.1.a x.X.length r.1.cap, .slice r.2.a x.Price.length r.2.cap, .int .i64 x.Cost].all Value.oneCell' = true := rfl
    exact List.all_eq_true.1 h v hv
  mono := fun S S' w r x hs ⟨h0, h1⟩ => ⟨GoRep.mono S S' w _ _ hs h0, GoRep.mono S S' w _ _ hs h1⟩
  dep := fun S w w' r x hs ⟨h0, h1⟩ => ⟨GoRep.dep S w w' _ _ hs h0, GoRep.dep S w w' _ _ hs h1⟩

structure Flow_residual where
  nodes : Int
  arcs : Int
  to : List Int
  left : List Int
  cost : List Int
  from_ : List (List Int)
  excess : List Int
  price : List Int
  deriving DecidableEq, Inhabited
instance : GoRep Flow_residual where
  R := (GoRep.R (List Int)) × (GoRep.R (List Int)) × (GoRep.R (List Int)) × (GoRep.R (List (List Int))) × (GoRep.R (List Int)) × (GoRep.R (List Int))
  n := 8
  bytes := 160
  enc := fun r x => [.int .i64 x.nodes, .int .i64 x.arcs, .slice r.1.a x.to.length r.1.cap, .slice r.2.1.a x.left.length r.2.1.cap, .slice r.2.2.1.a x.cost.length r.2.2.1.cap, .slice r.2.2.2.1.a x.from_.length r.2.2.2.1.cap, .slice r.2.2.2.2.1.a x.excess.length r.2.2.2.2.1.cap, .slice r.2.2.2.2.2.a x.price.length r.2.2.2.2.2.cap]
  ok := fun S w r x => GoRep.ok S w r.1 x.to ∧ GoRep.ok S w r.2.1 x.left ∧ GoRep.ok S w r.2.2.1 x.cost ∧ GoRep.ok S w r.2.2.2.1 x.from_ ∧ GoRep.ok S w r.2.2.2.2.1 x.excess ∧ GoRep.ok S w r.2.2.2.2.2 x.price
  npos := by decide
  bpos := by decide
  len := fun _ _ => rfl
  one := fun r x v hv => by
    have h : [.int .i64 x.nodes, .int .i64 x.arcs, .slice r.1.a x.to.length r.1.cap, .slice r.2.1.a x.left.length r.2.1.cap, .slice r.2.2.1.a x.cost.length r.2.2.1.cap, .slice r.2.2.2.1.a x.from_.length r.2.2.2.1.cap, .slice r.2.2.2.2.1.a x.excess.length r.2.2.2.2.1.cap, .slice r.2.2.2.2.2.a x.price.length r.2.2.2.2.2.cap].all Value.oneCell' = true := rfl
    exact List.all_eq_true.1 h v hv
  mono := fun S S' w r x hs ⟨h0, h1, h2, h3, h4, h5⟩ => ⟨GoRep.mono S S' w _ _ hs h0, GoRep.mono S S' w _ _ hs h1, GoRep.mono S S' w _ _ hs h2, GoRep.mono S S' w _ _ hs h3, GoRep.mono S S' w _ _ hs h4, GoRep.mono S S' w _ _ hs h5⟩
  dep := fun S w w' r x hs ⟨h0, h1, h2, h3, h4, h5⟩ => ⟨GoRep.dep S w w' _ _ hs h0, GoRep.dep S w w' _ _ hs h1, GoRep.dep S w w' _ _ hs h2, GoRep.dep S w w' _ _ hs h3, GoRep.dep S w w' _ _ hs h4, GoRep.dep S w w' _ _ hs h5⟩

structure Task where
  Type_ : Int
  From : Int
  To : Int
  Start : Int
  End : Int
  deriving DecidableEq, Inhabited
instance : GoRep Task where
  R := Unit
  n := 5
  bytes := 40
  enc := fun r x => [.int .i64 x.Type_, .int .i64 x.From, .int .i64 x.To, .int .i64 x.Start, .int .i64 x.End]
  ok := fun S w r x => True
  npos := by decide
  bpos := by decide
  len := fun _ _ => rfl
  one := fun r x v hv => by
    have h : [.int .i64 x.Type_, .int .i64 x.From, .int .i64 x.To, .int .i64 x.Start, .int .i64 x.End].all Value.oneCell' = true := rfl
    exact List.all_eq_true.1 h v hv
  mono := fun _ _ _ _ _ _ h => h
  dep := fun _ _ _ _ _ _ h => h

structure EmptyT where
  From : Int
  To : Int
  Seconds : Int
  deriving DecidableEq, Inhabited
instance : GoRep EmptyT where
  R := Unit
  n := 3
  bytes := 24
  enc := fun r x => [.int .i64 x.From, .int .i64 x.To, .int .i64 x.Seconds]
  ok := fun S w r x => True
  npos := by decide
  bpos := by decide
  len := fun _ _ => rfl
  one := fun r x v hv => by
    have h : [.int .i64 x.From, .int .i64 x.To, .int .i64 x.Seconds].all Value.oneCell' = true := rfl
    exact List.all_eq_true.1 h v hv
  mono := fun _ _ _ _ _ _ h => h
  dep := fun _ _ _ _ _ _ h => h

structure Rules where
  Turn : Int
  Empties : List EmptyT
  Shops : List Int
  Service : Int
  Limit : Int
  deriving DecidableEq, Inhabited
instance : GoRep Rules where
  R := (GoRep.R (List EmptyT)) × (GoRep.R (List Int))
  n := 5
  bytes := 72
  enc := fun r x => [.int .i64 x.Turn, .slice r.1.a x.Empties.length r.1.cap, .slice r.2.a x.Shops.length r.2.cap, .int .i64 x.Service, .int .i64 x.Limit]
  ok := fun S w r x => GoRep.ok S w r.1 x.Empties ∧ GoRep.ok S w r.2 x.Shops
  npos := by decide
  bpos := by decide
  len := fun _ _ => rfl
  one := fun r x v hv => by
    have h : [.int .i64 x.Turn, .slice r.1.a x.Empties.length r.1.cap, .slice r.2.a x.Shops.length r.2.cap, .int .i64 x.Service, .int .i64 x.Limit].all Value.oneCell' = true := rfl
    exact List.all_eq_true.1 h v hv
  mono := fun S S' w r x hs ⟨h0, h1⟩ => ⟨GoRep.mono S S' w _ _ hs h0, GoRep.mono S S' w _ _ hs h1⟩
  dep := fun S w w' r x hs ⟨h0, h1⟩ => ⟨GoRep.dep S w w' _ _ hs h0, GoRep.dep S w w' _ _ hs h1⟩

structure Cover where
  Left : List Int
  Right : List Int
  deriving DecidableEq, Inhabited
instance : GoRep Cover where
  R := (GoRep.R (List Int)) × (GoRep.R (List Int))
  n := 2
  bytes := 48
  enc := fun r x => [.slice r.1.a x.Left.length r.1.cap, .slice r.2.a x.Right.length r.2.cap]
  ok := fun S w r x => GoRep.ok S w r.1 x.Left ∧ GoRep.ok S w r.2 x.Right
  npos := by decide
  bpos := by decide
  len := fun _ _ => rfl
  one := fun r x v hv => by
    have h : [.slice r.1.a x.Left.length r.1.cap, .slice r.2.a x.Right.length r.2.cap].all Value.oneCell' = true := rfl
    exact List.all_eq_true.1 h v hv
  mono := fun S S' w r x hs ⟨h0, h1⟩ => ⟨GoRep.mono S S' w _ _ hs h0, GoRep.mono S S' w _ _ hs h1⟩
  dep := fun S w w' r x hs ⟨h0, h1⟩ => ⟨GoRep.dep S w w' _ _ hs h0, GoRep.dep S w w' _ _ hs h1⟩
end Go.Proofs.Ytedocibniankjaa

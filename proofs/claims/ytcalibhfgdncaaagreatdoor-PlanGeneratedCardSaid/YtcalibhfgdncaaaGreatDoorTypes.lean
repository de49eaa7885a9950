/- The program's types as plain data. -/
import Derived.Test.YtcalibhfgdncaaaGreatDoorChecked
import Derived.Test.YtcalibhfgdncaaaGreatDoorDn
set_option linter.all false
namespace Go.Proofs.YtcalibhfgdncaaaGreatDoor
open Go.Dc Go.RowKit
set_option maxRecDepth 10000
structure Section where
 Name:Str
 Length:Int
 Limit:Int
 jQ:Int
 nG:Int
 deriving DecidableEq,Inhabited
instance:aC Section where
 R:=Unit
 n:=5
 bytes:=48
 enc:=fun r x=>[.string x.Name.ba,.int .i64 x.Length,.int .i64 x.Limit,.int .i64 x.jQ,.int .i64 x.nG]
 ok:=fun S w r x=>True
 npos:=by decide
 bpos:=by decide
 len:=fun _ _=>rfl
 one:=fun r x v hv=>by
  have h:[.string x.Name.ba,.int .i64 x.Length,.int .i64 x.Limit,.int .i64 x.jQ,.int .i64 x.nG].all Value.oneCell'=true:=rfl
  exact List.all_eq_true.1 h v hv
 mono:=fun _ _ _ _ _ _ h=>h
 dep:=fun _ _ _ _ _ _ h=>h
structure Link where
 A:Int
 dN:Int
 B:Int
 dV:Int
 Point:Int
 Pos:Int
 deriving DecidableEq,Inhabited
instance:aC Link where
 R:=Unit
 n:=6
 bytes:=48
 enc:=fun r x=>[.int .i64 x.A,.int .i64 x.dN,.int .i64 x.B,.int .i64 x.dV,.int .i64 x.Point,.int .i64 x.Pos]
 ok:=fun S w r x=>True
 npos:=by decide
 bpos:=by decide
 len:=fun _ _=>rfl
 one:=fun r x v hv=>by
  have h:[.int .i64 x.A,.int .i64 x.dN,.int .i64 x.B,.int .i64 x.dV,.int .i64 x.Point,.int .i64 x.Pos].all Value.oneCell'=true:=rfl
  exact List.all_eq_true.1 h v hv
 mono:=fun _ _ _ _ _ _ h=>h
 dep:=fun _ _ _ _ _ _ h=>h
structure Layout where
 aU:List Str
 bG:List Str
 Sections:List Section
 Links:List Link
 deriving DecidableEq,Inhabited
instance:aC Layout where
 R:=(aC.R (List Str))×(aC.R (List Str))×(aC.R (List Section))×(aC.R (List Link))
 n:=4
 bytes:=96
 enc:=fun r x=>[.slice r.1.a x.aU.length r.1.cap,.slice r.2.1.a x.bG.length r.2.1.cap,.slice r.2.2.1.a x.Sections.length r.2.2.1.cap,.slice r.2.2.2.a x.Links.length r.2.2.2.cap]
 ok:=fun S w r x=>aC.ok S w r.1 x.aU∧aC.ok S w r.2.1 x.bG∧aC.ok S w r.2.2.1 x.Sections∧aC.ok S w r.2.2.2 x.Links
 npos:=by decide
 bpos:=by decide
 len:=fun _ _=>rfl
 one:=fun r x v hv=>by
  have h:[.slice r.1.a x.aU.length r.1.cap,.slice r.2.1.a x.bG.length r.2.1.cap,.slice r.2.2.1.a x.Sections.length r.2.2.1.cap,.slice r.2.2.2.a x.Links.length r.2.2.2.cap].all Value.oneCell'=true:=rfl
  exact List.all_eq_true.1 h v hv
 mono:=fun S S' w r x hs ⟨h0,h1,h2,h3⟩=>⟨aC.mono S S' w _ _ hs h0,aC.mono S S' w _ _ hs h1,aC.mono S S' w _ _ hs h2,aC.mono S S' w _ _ hs h3⟩
 dep:=fun S w w' r x hs ⟨h0,h1,h2,h3⟩=>⟨aC.dep S w w' _ _ hs h0,aC.dep S w w' _ _ hs h1,aC.dep S w w' _ _ hs h2,aC.dep S w w' _ _ hs h3⟩
structure Word where
 Text:Str
 Line:Int
 Col:Int
 deriving DecidableEq,Inhabited
instance:aC Word where
 R:=Unit
 n:=3
 bytes:=32
 enc:=fun r x=>[.string x.Text.ba,.int .i64 x.Line,.int .i64 x.Col]
 ok:=fun S w r x=>True
 npos:=by decide
 bpos:=by decide
 len:=fun _ _=>rfl
 one:=fun r x v hv=>by
  have h:[.string x.Text.ba,.int .i64 x.Line,.int .i64 x.Col].all Value.oneCell'=true:=rfl
  exact List.all_eq_true.1 h v hv
 mono:=fun _ _ _ _ _ _ h=>h
 dep:=fun _ _ _ _ _ _ h=>h
structure pG where
 rX:Int
 end_:Int
 deriving DecidableEq,Inhabited
instance:aC pG where
 R:=Unit
 n:=2
 bytes:=16
 enc:=fun r x=>[.int .i64 x.rX,.int .i64 x.end_]
 ok:=fun S w r x=>True
 npos:=by decide
 bpos:=by decide
 len:=fun _ _=>rfl
 one:=fun r x v hv=>by
  have h:[.int .i64 x.rX,.int .i64 x.end_].all Value.oneCell'=true:=rfl
  exact List.all_eq_true.1 h v hv
 mono:=fun _ _ _ _ _ _ h=>h
 dep:=fun _ _ _ _ _ _ h=>h
theorem aiL(x y:pG):decide (x=y)=true↔([.int .i64 x.rX,.int .i64 x.end_]:List Value)=[.int .i64 y.rX,.int .i64 y.end_]:=by
 constructor
 ·intro h;rw[of_decide_eq_true h]
 ·intro h
  obtain⟨a_1,a_2⟩:=x
  obtain⟨b_1,b_2⟩:=y
  simp only[List.cons.injEq,Value.int.injEq,Value.bool.injEq,Value.string.injEq,Str.YI,true_and,and_true] at h
  simp only[decide_eq_true_eq,pG.mk.injEq]
  simp_all
structure Step where
 Section:Int
 Dir:Int
 deriving DecidableEq,Inhabited
instance:aC Step where
 R:=Unit
 n:=2
 bytes:=16
 enc:=fun r x=>[.int .i64 x.Section,.int .i64 x.Dir]
 ok:=fun S w r x=>True
 npos:=by decide
 bpos:=by decide
 len:=fun _ _=>rfl
 one:=fun r x v hv=>by
  have h:[.int .i64 x.Section,.int .i64 x.Dir].all Value.oneCell'=true:=rfl
  exact List.all_eq_true.1 h v hv
 mono:=fun _ _ _ _ _ _ h=>h
 dep:=fun _ _ _ _ _ _ h=>h
theorem aiM(x y:Step):decide (x=y)=true↔([.int .i64 x.Section,.int .i64 x.Dir]:List Value)=[.int .i64 y.Section,.int .i64 y.Dir]:=by
 constructor
 ·intro h;rw[of_decide_eq_true h]
 ·intro h
  obtain⟨a_1,a_2⟩:=x
  obtain⟨b_1,b_2⟩:=y
  simp only[List.cons.injEq,Value.int.injEq,Value.bool.injEq,Value.string.injEq,Str.YI,true_and,and_true] at h
  simp only[decide_eq_true_eq,Step.mk.injEq]
  simp_all
structure mK where
 rX:Int
 side:Int
 deriving DecidableEq,Inhabited
instance:aC mK where
 R:=Unit
 n:=2
 bytes:=16
 enc:=fun r x=>[.int .i64 x.rX,.int .i64 x.side]
 ok:=fun S w r x=>True
 npos:=by decide
 bpos:=by decide
 len:=fun _ _=>rfl
 one:=fun r x v hv=>by
  have h:[.int .i64 x.rX,.int .i64 x.side].all Value.oneCell'=true:=rfl
  exact List.all_eq_true.1 h v hv
 mono:=fun _ _ _ _ _ _ h=>h
 dep:=fun _ _ _ _ _ _ h=>h
theorem UO(x y:mK):decide (x=y)=true↔([.int .i64 x.rX,.int .i64 x.side]:List Value)=[.int .i64 y.rX,.int .i64 y.side]:=by
 constructor
 ·intro h;rw[of_decide_eq_true h]
 ·intro h
  obtain⟨a_1,a_2⟩:=x
  obtain⟨b_1,b_2⟩:=y
  simp only[List.cons.injEq,Value.int.injEq,Value.bool.injEq,Value.string.injEq,Str.YI,true_and,and_true] at h
  simp only[decide_eq_true_eq,mK.mk.injEq]
  simp_all
structure aO where
 Steps:List Step
 Overlap:Int
 deriving DecidableEq,Inhabited
instance:aC aO where
 R:=(aC.R (List Step))
 n:=2
 bytes:=32
 enc:=fun r x=>[.slice r.a x.Steps.length r.cap,.int .i64 x.Overlap]
 ok:=fun S w r x=>aC.ok S w r x.Steps
 npos:=by decide
 bpos:=by decide
 len:=fun _ _=>rfl
 one:=fun r x v hv=>by
  have h:[.slice r.a x.Steps.length r.cap,.int .i64 x.Overlap].all Value.oneCell'=true:=rfl
  exact List.all_eq_true.1 h v hv
 mono:=fun S S' w r x hs h=>aC.mono S S' w _ _ hs h
 dep:=fun S w w' r x hs h=>aC.dep S w w' _ _ hs h
structure Cell where
 Limit:Int
 jQ:Int
 deriving DecidableEq,Inhabited
instance:aC Cell where
 R:=Unit
 n:=2
 bytes:=16
 enc:=fun r x=>[.int .i64 x.Limit,.int .i64 x.jQ]
 ok:=fun S w r x=>True
 npos:=by decide
 bpos:=by decide
 len:=fun _ _=>rfl
 one:=fun r x v hv=>by
  have h:[.int .i64 x.Limit,.int .i64 x.jQ].all Value.oneCell'=true:=rfl
  exact List.all_eq_true.1 h v hv
 mono:=fun _ _ _ _ _ _ h=>h
 dep:=fun _ _ _ _ _ _ h=>h
structure bZ where
 l:List Int
 i:Int
 deriving DecidableEq,Inhabited
instance:aC bZ where
 R:=(aC.R (List Int))
 n:=2
 bytes:=32
 enc:=fun r x=>[.slice r.a x.l.length r.cap,.int .i64 x.i]
 ok:=fun S w r x=>aC.ok S w r x.l
 npos:=by decide
 bpos:=by decide
 len:=fun _ _=>rfl
 one:=fun r x v hv=>by
  have h:[.slice r.a x.l.length r.cap,.int .i64 x.i].all Value.oneCell'=true:=rfl
  exact List.all_eq_true.1 h v hv
 mono:=fun S S' w r x hs h=>aC.mono S S' w _ _ hs h
 dep:=fun S w w' r x hs h=>aC.dep S w w' _ _ hs h
structure dM where
 l:Layout
 tracks:List (List Int)
 between:List (List Int)
 eX:List (List Int)
 deriving DecidableEq,Inhabited
instance:aC dM where
 R:=(aC.R Layout)×(aC.R (List (List Int)))×(aC.R (List (List Int)))×(aC.R (List (List Int)))
 n:=7
 bytes:=168
 enc:=fun r x=>[.slice r.1.1.a x.l.aU.length r.1.1.cap,.slice r.1.2.1.a x.l.bG.length r.1.2.1.cap,.slice r.1.2.2.1.a x.l.Sections.length r.1.2.2.1.cap,.slice r.1.2.2.2.a x.l.Links.length r.1.2.2.2.cap,.slice r.2.1.a x.tracks.length r.2.1.cap,.slice r.2.2.1.a x.between.length r.2.2.1.cap,.slice r.2.2.2.a x.eX.length r.2.2.2.cap]
 ok:=fun S w r x=>aC.ok S w r.1 x.l∧aC.ok S w r.2.1 x.tracks∧aC.ok S w r.2.2.1 x.between∧aC.ok S w r.2.2.2 x.eX
 npos:=by decide
 bpos:=by decide
 len:=fun _ _=>rfl
 one:=fun r x v hv=>by
  have h:[.slice r.1.1.a x.l.aU.length r.1.1.cap,.slice r.1.2.1.a x.l.bG.length r.1.2.1.cap,.slice r.1.2.2.1.a x.l.Sections.length r.1.2.2.1.cap,.slice r.1.2.2.2.a x.l.Links.length r.1.2.2.2.cap,.slice r.2.1.a x.tracks.length r.2.1.cap,.slice r.2.2.1.a x.between.length r.2.2.1.cap,.slice r.2.2.2.a x.eX.length r.2.2.2.cap].all Value.oneCell'=true:=rfl
  exact List.all_eq_true.1 h v hv
 mono:=fun S S' w r x hs ⟨h0,h1,h2,h3⟩=>⟨aC.mono S S' w _ _ hs h0,aC.mono S S' w _ _ hs h1,aC.mono S S' w _ _ hs h2,aC.mono S S' w _ _ hs h3⟩
 dep:=fun S w w' r x hs ⟨h0,h1,h2,h3⟩=>⟨aC.dep S w w' _ _ hs h0,aC.dep S w w' _ _ hs h1,aC.dep S w w' _ _ hs h2,aC.dep S w w' _ _ hs h3⟩
structure aH where
 Name:Str
 Length:Int
 qB:Int
 qy:Int
 qz:Int
 deriving DecidableEq,Inhabited
instance:aC aH where
 R:=Unit
 n:=5
 bytes:=48
 enc:=fun r x=>[.string x.Name.ba,.int .i64 x.Length,.int .i64 x.qB,.int .i64 x.qy,.int .i64 x.qz]
 ok:=fun S w r x=>True
 npos:=by decide
 bpos:=by decide
 len:=fun _ _=>rfl
 one:=fun r x v hv=>by
  have h:[.string x.Name.ba,.int .i64 x.Length,.int .i64 x.qB,.int .i64 x.qy,.int .i64 x.qz].all Value.oneCell'=true:=rfl
  exact List.all_eq_true.1 h v hv
 mono:=fun _ _ _ _ _ _ h=>h
 dep:=fun _ _ _ _ _ _ h=>h
structure uP where
 cells:List Cell
 first:Int
 deriving DecidableEq,Inhabited
instance:aC uP where
 R:=(aC.R (List Cell))
 n:=2
 bytes:=32
 enc:=fun r x=>[.slice r.a x.cells.length r.cap,.int .i64 x.first]
 ok:=fun S w r x=>aC.ok S w r x.cells
 npos:=by decide
 bpos:=by decide
 len:=fun _ _=>rfl
 one:=fun r x v hv=>by
  have h:[.slice r.a x.cells.length r.cap,.int .i64 x.first].all Value.oneCell'=true:=rfl
  exact List.all_eq_true.1 h v hv
 mono:=fun S S' w r x hs h=>aC.mono S S' w _ _ hs h
 dep:=fun S w w' r x hs h=>aC.dep S w w' _ _ hs h
structure aM where
 aO:Int
 Extra:Int
 Min:Int
 Max:Int
 deriving DecidableEq,Inhabited
instance:aC aM where
 R:=Unit
 n:=4
 bytes:=32
 enc:=fun r x=>[.int .i64 x.aO,.int .i64 x.Extra,.int .i64 x.Min,.int .i64 x.Max]
 ok:=fun S w r x=>True
 npos:=by decide
 bpos:=by decide
 len:=fun _ _=>rfl
 one:=fun r x v hv=>by
  have h:[.int .i64 x.aO,.int .i64 x.Extra,.int .i64 x.Min,.int .i64 x.Max].all Value.oneCell'=true:=rfl
  exact List.all_eq_true.1 h v hv
 mono:=fun _ _ _ _ _ _ h=>h
 dep:=fun _ _ _ _ _ _ h=>h
structure Line where
 Name:Str
 aH:Int
 Weight:Int
 aJ:List aM
 deriving DecidableEq,Inhabited
instance:aC Line where
 R:=(aC.R (List aM))
 n:=4
 bytes:=56
 enc:=fun r x=>[.string x.Name.ba,.int .i64 x.aH,.int .i64 x.Weight,.slice r.a x.aJ.length r.cap]
 ok:=fun S w r x=>aC.ok S w r x.aJ
 npos:=by decide
 bpos:=by decide
 len:=fun _ _=>rfl
 one:=fun r x v hv=>by
  have h:[.string x.Name.ba,.int .i64 x.aH,.int .i64 x.Weight,.slice r.a x.aJ.length r.cap].all Value.oneCell'=true:=rfl
  exact List.all_eq_true.1 h v hv
 mono:=fun S S' w r x hs h=>aC.mono S S' w _ _ hs h
 dep:=fun S w w' r x hs h=>aC.dep S w w' _ _ hs h
instance:Inner Line aM where
 get:=fun x=>x.aJ
 rep:=fun r=>r
 okI:=fun _ _ _ _ h=>h
structure Change where
 fZ:Int
 iE:Int
 iO:Int
 kN:Int
 Min:Int
 Max:Int
 Weight:Int
 deriving DecidableEq,Inhabited
instance:aC Change where
 R:=Unit
 n:=7
 bytes:=56
 enc:=fun r x=>[.int .i64 x.fZ,.int .i64 x.iE,.int .i64 x.iO,.int .i64 x.kN,.int .i64 x.Min,.int .i64 x.Max,.int .i64 x.Weight]
 ok:=fun S w r x=>True
 npos:=by decide
 bpos:=by decide
 len:=fun _ _=>rfl
 one:=fun r x v hv=>by
  have h:[.int .i64 x.fZ,.int .i64 x.iE,.int .i64 x.iO,.int .i64 x.kN,.int .i64 x.Min,.int .i64 x.Max,.int .i64 x.Weight].all Value.oneCell'=true:=rfl
  exact List.all_eq_true.1 h v hv
 mono:=fun _ _ _ _ _ _ h=>h
 dep:=fun _ _ _ _ _ _ h=>h
structure Turn where
 From:Int
 To:Int
 Min:Int
 Max:Int
 deriving DecidableEq,Inhabited
instance:aC Turn where
 R:=Unit
 n:=4
 bytes:=32
 enc:=fun r x=>[.int .i64 x.From,.int .i64 x.To,.int .i64 x.Min,.int .i64 x.Max]
 ok:=fun S w r x=>True
 npos:=by decide
 bpos:=by decide
 len:=fun _ _=>rfl
 one:=fun r x v hv=>by
  have h:[.int .i64 x.From,.int .i64 x.To,.int .i64 x.Min,.int .i64 x.Max].all Value.oneCell'=true:=rfl
  exact List.all_eq_true.1 h v hv
 mono:=fun _ _ _ _ _ _ h=>h
 dep:=fun _ _ _ _ _ _ h=>h
structure Sync where
 mJ:Int
 lG:Int
 mP:Int
 lN:Int
 Offset:Int
 deriving DecidableEq,Inhabited
instance:aC Sync where
 R:=Unit
 n:=5
 bytes:=40
 enc:=fun r x=>[.int .i64 x.mJ,.int .i64 x.lG,.int .i64 x.mP,.int .i64 x.lN,.int .i64 x.Offset]
 ok:=fun S w r x=>True
 npos:=by decide
 bpos:=by decide
 len:=fun _ _=>rfl
 one:=fun r x v hv=>by
  have h:[.int .i64 x.mJ,.int .i64 x.lG,.int .i64 x.mP,.int .i64 x.lN,.int .i64 x.Offset].all Value.oneCell'=true:=rfl
  exact List.all_eq_true.1 h v hv
 mono:=fun _ _ _ _ _ _ h=>h
 dep:=fun _ _ _ _ _ _ h=>h
structure dF where
 From:Int
 To:Int
 Weight:Int
 deriving DecidableEq,Inhabited
instance:aC dF where
 R:=Unit
 n:=3
 bytes:=24
 enc:=fun r x=>[.int .i64 x.From,.int .i64 x.To,.int .i64 x.Weight]
 ok:=fun S w r x=>True
 npos:=by decide
 bpos:=by decide
 len:=fun _ _=>rfl
 one:=fun r x v hv=>by
  have h:[.int .i64 x.From,.int .i64 x.To,.int .i64 x.Weight].all Value.oneCell'=true:=rfl
  exact List.all_eq_true.1 h v hv
 mono:=fun _ _ _ _ _ _ h=>h
 dep:=fun _ _ _ _ _ _ h=>h
structure Plan where
 bU:Int
 aR:List aH
 Routes:List aO
 Lines:List Line
 Changes:List Change
 Turns:List Turn
 bE:List Sync
 bF:List dF
 deriving DecidableEq,Inhabited
instance:aC Plan where
 R:=(aC.R (List aH))×(aC.R (List aO))×(aC.R (List Line))×(aC.R (List Change))×(aC.R (List Turn))×(aC.R (List Sync))×(aC.R (List dF))
 n:=8
 bytes:=176
 enc:=fun r x=>[.int .i64 x.bU,.slice r.1.a x.aR.length r.1.cap,.slice r.2.1.a x.Routes.length r.2.1.cap,.slice r.2.2.1.a x.Lines.length r.2.2.1.cap,.slice r.2.2.2.1.a x.Changes.length r.2.2.2.1.cap,.slice r.2.2.2.2.1.a x.Turns.length r.2.2.2.2.1.cap,.slice r.2.2.2.2.2.1.a x.bE.length r.2.2.2.2.2.1.cap,.slice r.2.2.2.2.2.2.a x.bF.length r.2.2.2.2.2.2.cap]
 ok:=fun S w r x=>aC.ok S w r.1 x.aR∧aC.ok S w r.2.1 x.Routes∧aC.ok S w r.2.2.1 x.Lines∧aC.ok S w r.2.2.2.1 x.Changes∧aC.ok S w r.2.2.2.2.1 x.Turns∧aC.ok S w r.2.2.2.2.2.1 x.bE∧aC.ok S w r.2.2.2.2.2.2 x.bF
 npos:=by decide
 bpos:=by decide
 len:=fun _ _=>rfl
 one:=fun r x v hv=>by
  have h:[.int .i64 x.bU,.slice r.1.a x.aR.length r.1.cap,.slice r.2.1.a x.Routes.length r.2.1.cap,.slice r.2.2.1.a x.Lines.length r.2.2.1.cap,.slice r.2.2.2.1.a x.Changes.length r.2.2.2.1.cap,.slice r.2.2.2.2.1.a x.Turns.length r.2.2.2.2.1.cap,.slice r.2.2.2.2.2.1.a x.bE.length r.2.2.2.2.2.1.cap,.slice r.2.2.2.2.2.2.a x.bF.length r.2.2.2.2.2.2.cap].all Value.oneCell'=true:=rfl
  exact List.all_eq_true.1 h v hv
 mono:=fun S S' w r x hs ⟨h0,h1,h2,h3,h4,h5,h6⟩=>⟨aC.mono S S' w _ _ hs h0,aC.mono S S' w _ _ hs h1,aC.mono S S' w _ _ hs h2,aC.mono S S' w _ _ hs h3,aC.mono S S' w _ _ hs h4,aC.mono S S' w _ _ hs h5,aC.mono S S' w _ _ hs h6⟩
 dep:=fun S w w' r x hs ⟨h0,h1,h2,h3,h4,h5,h6⟩=>⟨aC.dep S w w' _ _ hs h0,aC.dep S w w' _ _ hs h1,aC.dep S w w' _ _ hs h2,aC.dep S w w' _ _ hs h3,aC.dep S w w' _ _ hs h4,aC.dep S w w' _ _ hs h5,aC.dep S w w' _ _ hs h6⟩
instance:aC Any where
 R:=Unit
 n:=1
 bytes:=16
 enc:=fun _ x=>[EP 9 3 x]
 ok:=fun _ _ _ _=>True
 npos:=Nat.one_pos
 bpos:=by omega
 len:=fun _ _=>rfl
 one:=fun _ x v hv=>by simp at hv;subst hv;cases x<;>rfl
 mono:=fun _ _ _ _ _ _ h=>h
 dep:=fun _ _ _ _ _ _ h=>h
structure lM where
 lines:List (List Str)
 deriving DecidableEq,Inhabited
instance:aC lM where
 R:=(aC.R (List (List Str)))
 n:=1
 bytes:=24
 enc:=fun r x=>[.slice r.a x.lines.length r.cap]
 ok:=fun S w r x=>aC.ok S w r x.lines
 npos:=by decide
 bpos:=by decide
 len:=fun _ _=>rfl
 one:=fun r x v hv=>by
  have h:[.slice r.a x.lines.length r.cap].all Value.oneCell'=true:=rfl
  exact List.all_eq_true.1 h v hv
 mono:=fun S S' w r x hs h=>aC.mono S S' w _ _ hs h
 dep:=fun S w w' r x hs h=>aC.dep S w w' _ _ hs h
structure adw where
 l:Layout
 p:Plan
 period:Bool
 w:List Str
 e:Int
 deriving DecidableEq,Inhabited
instance:aC adw where
 R:=(aC.R Layout)×(aC.R Plan)×(aC.R (List Str))
 n:=15
 bytes:=312
 enc:=fun r x=>[.slice r.1.1.a x.l.aU.length r.1.1.cap,.slice r.1.2.1.a x.l.bG.length r.1.2.1.cap,.slice r.1.2.2.1.a x.l.Sections.length r.1.2.2.1.cap,.slice r.1.2.2.2.a x.l.Links.length r.1.2.2.2.cap,.int .i64 x.p.bU,.slice r.2.1.1.a x.p.aR.length r.2.1.1.cap,.slice r.2.1.2.1.a x.p.Routes.length r.2.1.2.1.cap,.slice r.2.1.2.2.1.a x.p.Lines.length r.2.1.2.2.1.cap,.slice r.2.1.2.2.2.1.a x.p.Changes.length r.2.1.2.2.2.1.cap,.slice r.2.1.2.2.2.2.1.a x.p.Turns.length r.2.1.2.2.2.2.1.cap,.slice r.2.1.2.2.2.2.2.1.a x.p.bE.length r.2.1.2.2.2.2.2.1.cap,.slice r.2.1.2.2.2.2.2.2.a x.p.bF.length r.2.1.2.2.2.2.2.2.cap,.bool x.period,.slice r.2.2.a x.w.length r.2.2.cap,.int .i64 x.e]
 ok:=fun S w r x=>aC.ok S w r.1 x.l∧aC.ok S w r.2.1 x.p∧aC.ok S w r.2.2 x.w
 npos:=by decide
 bpos:=by decide
 len:=fun _ _=>rfl
 one:=fun r x v hv=>by
  have h:[.slice r.1.1.a x.l.aU.length r.1.1.cap,.slice r.1.2.1.a x.l.bG.length r.1.2.1.cap,.slice r.1.2.2.1.a x.l.Sections.length r.1.2.2.1.cap,.slice r.1.2.2.2.a x.l.Links.length r.1.2.2.2.cap,.int .i64 x.p.bU,.slice r.2.1.1.a x.p.aR.length r.2.1.1.cap,.slice r.2.1.2.1.a x.p.Routes.length r.2.1.2.1.cap,.slice r.2.1.2.2.1.a x.p.Lines.length r.2.1.2.2.1.cap,.slice r.2.1.2.2.2.1.a x.p.Changes.length r.2.1.2.2.2.1.cap,.slice r.2.1.2.2.2.2.1.a x.p.Turns.length r.2.1.2.2.2.2.1.cap,.slice r.2.1.2.2.2.2.2.1.a x.p.bE.length r.2.1.2.2.2.2.2.1.cap,.slice r.2.1.2.2.2.2.2.2.a x.p.bF.length r.2.1.2.2.2.2.2.2.cap,.bool x.period,.slice r.2.2.a x.w.length r.2.2.cap,.int .i64 x.e].all Value.oneCell'=true:=rfl
  exact List.all_eq_true.1 h v hv
 mono:=fun S S' w r x hs ⟨h0,h1,h2⟩=>⟨aC.mono S S' w _ _ hs h0,aC.mono S S' w _ _ hs h1,aC.mono S S' w _ _ hs h2⟩
 dep:=fun S w w' r x hs ⟨h0,h1,h2⟩=>⟨aC.dep S w w' _ _ hs h0,aC.dep S w w' _ _ hs h1,aC.dep S w w' _ _ hs h2⟩
structure Hop where
 To:Step
 Point:Int
 Pos:Int
 deriving DecidableEq,Inhabited
instance:aC Hop where
 R:=Unit
 n:=4
 bytes:=32
 enc:=fun r x=>[.int .i64 x.To.Section,.int .i64 x.To.Dir,.int .i64 x.Point,.int .i64 x.Pos]
 ok:=fun S w r x=>True
 npos:=by decide
 bpos:=by decide
 len:=fun _ _=>rfl
 one:=fun r x v hv=>by
  have h:[.int .i64 x.To.Section,.int .i64 x.To.Dir,.int .i64 x.Point,.int .i64 x.Pos].all Value.oneCell'=true:=rfl
  exact List.all_eq_true.1 h v hv
 mono:=fun _ _ _ _ _ _ h=>h
 dep:=fun _ _ _ _ _ _ h=>h
structure adx where
 l:Layout
 p:Plan
 periods:Int
 deriving DecidableEq,Inhabited
instance:aC adx where
 R:=(aC.R Layout)×(aC.R Plan)
 n:=13
 bytes:=280
 enc:=fun r x=>[.slice r.1.1.a x.l.aU.length r.1.1.cap,.slice r.1.2.1.a x.l.bG.length r.1.2.1.cap,.slice r.1.2.2.1.a x.l.Sections.length r.1.2.2.1.cap,.slice r.1.2.2.2.a x.l.Links.length r.1.2.2.2.cap,.int .i64 x.p.bU,.slice r.2.1.a x.p.aR.length r.2.1.cap,.slice r.2.2.1.a x.p.Routes.length r.2.2.1.cap,.slice r.2.2.2.1.a x.p.Lines.length r.2.2.2.1.cap,.slice r.2.2.2.2.1.a x.p.Changes.length r.2.2.2.2.1.cap,.slice r.2.2.2.2.2.1.a x.p.Turns.length r.2.2.2.2.2.1.cap,.slice r.2.2.2.2.2.2.1.a x.p.bE.length r.2.2.2.2.2.2.1.cap,.slice r.2.2.2.2.2.2.2.a x.p.bF.length r.2.2.2.2.2.2.2.cap,.int .i64 x.periods]
 ok:=fun S w r x=>aC.ok S w r.1 x.l∧aC.ok S w r.2 x.p
 npos:=by decide
 bpos:=by decide
 len:=fun _ _=>rfl
 one:=fun r x v hv=>by
  have h:[.slice r.1.1.a x.l.aU.length r.1.1.cap,.slice r.1.2.1.a x.l.bG.length r.1.2.1.cap,.slice r.1.2.2.1.a x.l.Sections.length r.1.2.2.1.cap,.slice r.1.2.2.2.a x.l.Links.length r.1.2.2.2.cap,.int .i64 x.p.bU,.slice r.2.1.a x.p.aR.length r.2.1.cap,.slice r.2.2.1.a x.p.Routes.length r.2.2.1.cap,.slice r.2.2.2.1.a x.p.Lines.length r.2.2.2.1.cap,.slice r.2.2.2.2.1.a x.p.Changes.length r.2.2.2.2.1.cap,.slice r.2.2.2.2.2.1.a x.p.Turns.length r.2.2.2.2.2.1.cap,.slice r.2.2.2.2.2.2.1.a x.p.bE.length r.2.2.2.2.2.2.1.cap,.slice r.2.2.2.2.2.2.2.a x.p.bF.length r.2.2.2.2.2.2.2.cap,.int .i64 x.periods].all Value.oneCell'=true:=rfl
  exact List.all_eq_true.1 h v hv
 mono:=fun S S' w r x hs ⟨h0,h1⟩=>⟨aC.mono S S' w _ _ hs h0,aC.mono S S' w _ _ hs h1⟩
 dep:=fun S w w' r x hs ⟨h0,h1⟩=>⟨aC.dep S w w' _ _ hs h0,aC.dep S w w' _ _ hs h1⟩
abbrev Eo:SR (aC.R Cell):=⟨none,0,(fun _=>())⟩
abbrev uZ:SR (aC.R Change):=⟨none,0,(fun _=>())⟩
abbrev pV:SR (aC.R dF):=⟨none,0,(fun _=>())⟩
abbrev apq:SR (aC.R Hop):=⟨none,0,(fun _=>())⟩
abbrev Bw:SR (aC.R Int):=⟨none,0,(fun _=>())⟩
abbrev yX:SR (aC.R Line):=⟨none,0,(fun _=>(⟨none,0,(fun _=>())⟩:SR (aC.R aM)))⟩
abbrev rJ:SR (aC.R Link):=⟨none,0,(fun _=>())⟩
abbrev iI:SR (aC.R (List Int)):=⟨none,0,(fun _=>(⟨none,0,(fun _=>())⟩:SR (aC.R Int)))⟩
abbrev apr:SR (aC.R (List Str)):=⟨none,0,(fun _=>(⟨none,0,(fun _=>())⟩:SR (aC.R Str)))⟩
abbrev abg:SR (aC.R (List Word)):=⟨none,0,(fun _=>(⟨none,0,(fun _=>())⟩:SR (aC.R Word)))⟩
abbrev J7:SR (aC.R aM):=⟨none,0,(fun _=>())⟩
abbrev yY:SR (aC.R aO):=⟨none,0,(fun _=>(⟨none,0,(fun _=>())⟩:SR (aC.R Step)))⟩
abbrev u7:SR (aC.R Section):=⟨none,0,(fun _=>())⟩
abbrev Ac:SR (aC.R Step):=⟨none,0,(fun _=>())⟩
abbrev Ad:SR (aC.R aH):=⟨none,0,(fun _=>())⟩
abbrev jT:SR (aC.R Str):=⟨none,0,(fun _=>())⟩
abbrev qj:SR (aC.R Sync):=⟨none,0,(fun _=>())⟩
abbrev wh:SR (aC.R Turn):=⟨none,0,(fun _=>())⟩
abbrev aps:SR (aC.R UInt8):=⟨none,0,(fun _=>())⟩
abbrev M4:SR (aC.R Word):=⟨none,0,(fun _=>())⟩
abbrev Ae(x:Section):List Value:=[.string x.Name.ba,vI x.Length,vI x.Limit,vI x.jQ,vI x.nG]
abbrev adB(x:Section):Array Value:=(Ae x).toArray
abbrev sN(x:Link):List Value:=[vI x.A,vI x.dN,vI x.B,vI x.dV,vI x.Point,vI x.Pos]
abbrev aiO(x:Link):Array Value:=(sN x).toArray
abbrev cK(x:Layout)(r:aC.R Layout):List Value:=[sL r.1 x.aU,sL r.2.1 x.bG,sL r.2.2.1 x.Sections,sL r.2.2.2 x.Links]
abbrev jN(x:Layout)(r:aC.R Layout):Array Value:=(cK x r).toArray
abbrev Rt(x:pG):List Value:=[vI x.rX,vI x.end_]
abbrev adz(x:pG):Array Value:=(Rt x).toArray
abbrev o9(x:Step):List Value:=[vI x.Section,vI x.Dir]
abbrev EO(x:Step):Array Value:=(o9 x).toArray
abbrev ku(x:mK):List Value:=[vI x.rX,vI x.side]
abbrev aiP(x:mK):Array Value:=(ku x).toArray
abbrev jC(x:aO)(r:aC.R aO):List Value:=[sL r x.Steps,vI x.Overlap]
abbrev xH(x:aO)(r:aC.R aO):Array Value:=(jC x r).toArray
abbrev Cy(x:bZ)(r:aC.R bZ):List Value:=[sL r x.l,vI x.i]
abbrev qZ(x:dM)(r:aC.R dM):List Value:=[sL r.1.1 x.l.aU,sL r.1.2.1 x.l.bG,sL r.1.2.2.1 x.l.Sections,sL r.1.2.2.2 x.l.Links,sL r.2.1 x.tracks,sL r.2.2.1 x.between,sL r.2.2.2 x.eX]
abbrev ru(x:aH):List Value:=[.string x.Name.ba,vI x.Length,vI x.qB,vI x.qy,vI x.qz]
abbrev Jc(x:aH):Array Value:=(ru x).toArray
abbrev afK(x:uP)(r:aC.R uP):List Value:=[sL r x.cells,vI x.first]
abbrev YD(x:uP)(r:aC.R uP):Array Value:=(afK x r).toArray
abbrev wY(x:aM):List Value:=[vI x.aO,vI x.Extra,vI x.Min,vI x.Max]
abbrev adA(x:aM):Array Value:=(wY x).toArray
abbrev kZ(x:Line)(r:aC.R Line):List Value:=[.string x.Name.ba,vI x.aH,vI x.Weight,sL r x.aJ]
abbrev YE(x:Line)(r:aC.R Line):Array Value:=(kZ x r).toArray
abbrev Ep(x:Change):List Value:=[vI x.fZ,vI x.iE,vI x.iO,vI x.kN,vI x.Min,vI x.Max,vI x.Weight]
abbrev aiN(x:Change):Array Value:=(Ep x).toArray
abbrev vg(x:Turn):List Value:=[vI x.From,vI x.To,vI x.Min,vI x.Max]
abbrev adC(x:Turn):Array Value:=(vg x).toArray
abbrev FK(x:Sync):List Value:=[vI x.mJ,vI x.lG,vI x.mP,vI x.lN,vI x.Offset]
abbrev FJ(x:dF):List Value:=[vI x.From,vI x.To,vI x.Weight]
abbrev dh(x:Plan)(r:aC.R Plan):List Value:=[vI x.bU,sL r.1 x.aR,sL r.2.1 x.Routes,sL r.2.2.1 x.Lines,sL r.2.2.2.1 x.Changes,sL r.2.2.2.2.1 x.Turns,sL r.2.2.2.2.2.1 x.bE,sL r.2.2.2.2.2.2 x.bF]
abbrev iV(x:Plan)(r:aC.R Plan):Array Value:=(dh x r).toArray
abbrev G8(x:lM)(r:aC.R lM):List Value:=[sL r x.lines]
abbrev Rs(x:Hop):List Value:=[vI x.To.Section,vI x.To.Dir,vI x.Point,vI x.Pos]
abbrev Pn(x:Hop):Array Value:=(Rs x).toArray
end Go.Proofs.YtcalibhfgdncaaaGreatDoor
namespace Go.Dc
open Go.Proofs.YtcalibhfgdncaaaGreatDoor Go.RowKit
theorem Mem.lY{S:bO}{w:World}{cs H:List Chunk}{r:aC.R Layout}{x:Layout}(hm:Mem (xG w S cs) H w)(h:aC.ok S w r x):Mem (xG w S cs) (dw (α:=List Link) r.2.2.2 x.Links::dw (α:=List Section) r.2.2.1 x.Sections::dw (α:=List Str) r.2.1 x.bG::dw (α:=List Str) r.1 x.aU::H) w:=
 hm |>.gW (α:=List Str) (r:=r.1) (x:=x.aU) h.1 |>.gW (α:=List Str) (r:=r.2.1) (x:=x.bG) h.2.1 |>.gW (α:=List Section) (r:=r.2.2.1) (x:=x.Sections) h.2.2.1 |>.gW (α:=List Link) (r:=r.2.2.2) (x:=x.Links) h.2.2.2
theorem Mem.nS{S:bO}{w:World}{cs H:List Chunk}{r:aC.R Plan}{x:Plan}(hm:Mem (xG w S cs) H w)(h:aC.ok S w r x):Mem (xG w S cs) (dw (α:=List dF) r.2.2.2.2.2.2 x.bF::dw (α:=List Sync) r.2.2.2.2.2.1 x.bE::dw (α:=List Turn) r.2.2.2.2.1 x.Turns::dw (α:=List Change) r.2.2.2.1 x.Changes::dw (α:=List Line) r.2.2.1 x.Lines::dw (α:=List aO) r.2.1 x.Routes::dw (α:=List aH) r.1 x.aR::H) w:=
 hm |>.gW (α:=List aH) (r:=r.1) (x:=x.aR) h.1 |>.gW (α:=List aO) (r:=r.2.1) (x:=x.Routes) h.2.1 |>.gW (α:=List Line) (r:=r.2.2.1) (x:=x.Lines) h.2.2.1 |>.gW (α:=List Change) (r:=r.2.2.2.1) (x:=x.Changes) h.2.2.2.1 |>.gW (α:=List Turn) (r:=r.2.2.2.2.1) (x:=x.Turns) h.2.2.2.2.1 |>.gW (α:=List Sync) (r:=r.2.2.2.2.2.1) (x:=x.bE) h.2.2.2.2.2.1 |>.gW (α:=List dF) (r:=r.2.2.2.2.2.2) (x:=x.bF) h.2.2.2.2.2.2
end Go.Dc

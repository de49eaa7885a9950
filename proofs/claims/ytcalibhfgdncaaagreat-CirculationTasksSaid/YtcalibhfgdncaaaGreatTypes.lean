/- The program's types as plain data. -/
import Derived.Test.YtcalibhfgdncaaaGreatChecked
import Derived.Test.YtcalibhfgdncaaaGreatDn
set_option linter.all false
namespace Go.Proofs.YtcalibhfgdncaaaGreat
open Go.Dc Go.RowKit
set_option maxRecDepth 10000
structure Section where
 Name:Str
 Length:Int
 Limit:Int
 kr:Int
 nN:Int
 deriving DecidableEq,Inhabited
instance:ak Section where
 R:=Unit
 n:=5
 bytes:=48
 enc:=fun r x=>[.string x.Name.ba,.int .i64 x.Length,.int .i64 x.Limit,.int .i64 x.kr,.int .i64 x.nN]
 ok:=fun S w r x=>True
 npos:=by decide
 bpos:=by decide
 len:=fun _ _=>rfl
 one:=fun r x v hv=>by
  have h:[.string x.Name.ba,.int .i64 x.Length,.int .i64 x.Limit,.int .i64 x.kr,.int .i64 x.nN].all Value.oneCell'=true:=rfl
  exact List.all_eq_true.1 h v hv
 mono:=fun _ _ _ _ _ _ h=>h
 dep:=fun _ _ _ _ _ _ h=>h
structure Link where
 A:Int
 dQ:Int
 B:Int
 dV:Int
 Point:Int
 Pos:Int
 deriving DecidableEq,Inhabited
instance:ak Link where
 R:=Unit
 n:=6
 bytes:=48
 enc:=fun r x=>[.int .i64 x.A,.int .i64 x.dQ,.int .i64 x.B,.int .i64 x.dV,.int .i64 x.Point,.int .i64 x.Pos]
 ok:=fun S w r x=>True
 npos:=by decide
 bpos:=by decide
 len:=fun _ _=>rfl
 one:=fun r x v hv=>by
  have h:[.int .i64 x.A,.int .i64 x.dQ,.int .i64 x.B,.int .i64 x.dV,.int .i64 x.Point,.int .i64 x.Pos].all Value.oneCell'=true:=rfl
  exact List.all_eq_true.1 h v hv
 mono:=fun _ _ _ _ _ _ h=>h
 dep:=fun _ _ _ _ _ _ h=>h
structure Layout where
 bB:List Str
 bN:List Str
 Sections:List Section
 Links:List Link
 deriving DecidableEq,Inhabited
instance:ak Layout where
 R:=(ak.R (List Str))×(ak.R (List Str))×(ak.R (List Section))×(ak.R (List Link))
 n:=4
 bytes:=96
 enc:=fun r x=>[.slice r.1.a x.bB.length r.1.cap,.slice r.2.1.a x.bN.length r.2.1.cap,.slice r.2.2.1.a x.Sections.length r.2.2.1.cap,.slice r.2.2.2.a x.Links.length r.2.2.2.cap]
 ok:=fun S w r x=>ak.ok S w r.1 x.bB∧ak.ok S w r.2.1 x.bN∧ak.ok S w r.2.2.1 x.Sections∧ak.ok S w r.2.2.2 x.Links
 npos:=by decide
 bpos:=by decide
 len:=fun _ _=>rfl
 one:=fun r x v hv=>by
  have h:[.slice r.1.a x.bB.length r.1.cap,.slice r.2.1.a x.bN.length r.2.1.cap,.slice r.2.2.1.a x.Sections.length r.2.2.1.cap,.slice r.2.2.2.a x.Links.length r.2.2.2.cap].all Value.oneCell'=true:=rfl
  exact List.all_eq_true.1 h v hv
 mono:=fun S S' w r x hs ⟨h0,h1,h2,h3⟩=>⟨ak.mono S S' w _ _ hs h0,ak.mono S S' w _ _ hs h1,ak.mono S S' w _ _ hs h2,ak.mono S S' w _ _ hs h3⟩
 dep:=fun S w w' r x hs ⟨h0,h1,h2,h3⟩=>⟨ak.dep S w w' _ _ hs h0,ak.dep S w w' _ _ hs h1,ak.dep S w w' _ _ hs h2,ak.dep S w w' _ _ hs h3⟩
structure qp where
 tZ:Int
 end_:Int
 deriving DecidableEq,Inhabited
instance:ak qp where
 R:=Unit
 n:=2
 bytes:=16
 enc:=fun r x=>[.int .i64 x.tZ,.int .i64 x.end_]
 ok:=fun S w r x=>True
 npos:=by decide
 bpos:=by decide
 len:=fun _ _=>rfl
 one:=fun r x v hv=>by
  have h:[.int .i64 x.tZ,.int .i64 x.end_].all Value.oneCell'=true:=rfl
  exact List.all_eq_true.1 h v hv
 mono:=fun _ _ _ _ _ _ h=>h
 dep:=fun _ _ _ _ _ _ h=>h
theorem ahd(x y:qp):decide (x=y)=true↔([.int .i64 x.tZ,.int .i64 x.end_]:List Value)=[.int .i64 y.tZ,.int .i64 y.end_]:=by
 constructor
 ·intro h;rw[of_decide_eq_true h]
 ·intro h
  obtain⟨a_1,a_2⟩:=x
  obtain⟨b_1,XD⟩:=y
  simp only[List.cons.injEq,Value.int.injEq,Value.bool.injEq,Value.string.injEq,Str.Td,true_and,and_true] at h
  simp only[decide_eq_true_eq,qp.mk.injEq]
  simp_all
structure Step where
 Section:Int
 Dir:Int
 deriving DecidableEq,Inhabited
instance:ak Step where
 R:=Unit
 n:=2
 bytes:=16
 enc:=fun r x=>[.int .i64 x.Section,.int .i64 x.Dir]
 ok:=fun S w r x=>True
 npos:=by decide
 bpos:=by decide
 len:=fun _ _=>rfl
 one:=fun r x v hv=>by
  have h:[.int .i64 x.Section,.int .i64 x.Dir].all Value.oneCell'=true:=rfl
  exact List.all_eq_true.1 h v hv
 mono:=fun _ _ _ _ _ _ h=>h
 dep:=fun _ _ _ _ _ _ h=>h
theorem ahe(x y:Step):decide (x=y)=true↔([.int .i64 x.Section,.int .i64 x.Dir]:List Value)=[.int .i64 y.Section,.int .i64 y.Dir]:=by
 constructor
 ·intro h;rw[of_decide_eq_true h]
 ·intro h
  obtain⟨a_1,a_2⟩:=x
  obtain⟨b_1,XD⟩:=y
  simp only[List.cons.injEq,Value.int.injEq,Value.bool.injEq,Value.string.injEq,Str.Td,true_and,and_true] at h
  simp only[decide_eq_true_eq,Step.mk.injEq]
  simp_all
structure mM where
 tZ:Int
 side:Int
 deriving DecidableEq,Inhabited
instance:ak mM where
 R:=Unit
 n:=2
 bytes:=16
 enc:=fun r x=>[.int .i64 x.tZ,.int .i64 x.side]
 ok:=fun S w r x=>True
 npos:=by decide
 bpos:=by decide
 len:=fun _ _=>rfl
 one:=fun r x v hv=>by
  have h:[.int .i64 x.tZ,.int .i64 x.side].all Value.oneCell'=true:=rfl
  exact List.all_eq_true.1 h v hv
 mono:=fun _ _ _ _ _ _ h=>h
 dep:=fun _ _ _ _ _ _ h=>h
theorem SK(x y:mM):decide (x=y)=true↔([.int .i64 x.tZ,.int .i64 x.side]:List Value)=[.int .i64 y.tZ,.int .i64 y.side]:=by
 constructor
 ·intro h;rw[of_decide_eq_true h]
 ·intro h
  obtain⟨a_1,a_2⟩:=x
  obtain⟨b_1,XD⟩:=y
  simp only[List.cons.injEq,Value.int.injEq,Value.bool.injEq,Value.string.injEq,Str.Td,true_and,and_true] at h
  simp only[decide_eq_true_eq,mM.mk.injEq]
  simp_all
structure aO where
 Steps:List Step
 Overlap:Int
 deriving DecidableEq,Inhabited
instance:ak aO where
 R:=(ak.R (List Step))
 n:=2
 bytes:=32
 enc:=fun r x=>[.slice r.a x.Steps.length r.cap,.int .i64 x.Overlap]
 ok:=fun S w r x=>ak.ok S w r x.Steps
 npos:=by decide
 bpos:=by decide
 len:=fun _ _=>rfl
 one:=fun r x v hv=>by
  have h:[.slice r.a x.Steps.length r.cap,.int .i64 x.Overlap].all Value.oneCell'=true:=rfl
  exact List.all_eq_true.1 h v hv
 mono:=fun S S' w r x hs h=>ak.mono S S' w _ _ hs h
 dep:=fun S w w' r x hs h=>ak.dep S w w' _ _ hs h
structure Cell where
 Limit:Int
 kr:Int
 deriving DecidableEq,Inhabited
instance:ak Cell where
 R:=Unit
 n:=2
 bytes:=16
 enc:=fun r x=>[.int .i64 x.Limit,.int .i64 x.kr]
 ok:=fun S w r x=>True
 npos:=by decide
 bpos:=by decide
 len:=fun _ _=>rfl
 one:=fun r x v hv=>by
  have h:[.int .i64 x.Limit,.int .i64 x.kr].all Value.oneCell'=true:=rfl
  exact List.all_eq_true.1 h v hv
 mono:=fun _ _ _ _ _ _ h=>h
 dep:=fun _ _ _ _ _ _ h=>h
structure bS where
 l:List Int
 i:Int
 deriving DecidableEq,Inhabited
instance:ak bS where
 R:=(ak.R (List Int))
 n:=2
 bytes:=32
 enc:=fun r x=>[.slice r.a x.l.length r.cap,.int .i64 x.i]
 ok:=fun S w r x=>ak.ok S w r x.l
 npos:=by decide
 bpos:=by decide
 len:=fun _ _=>rfl
 one:=fun r x v hv=>by
  have h:[.slice r.a x.l.length r.cap,.int .i64 x.i].all Value.oneCell'=true:=rfl
  exact List.all_eq_true.1 h v hv
 mono:=fun S S' w r x hs h=>ak.mono S S' w _ _ hs h
 dep:=fun S w w' r x hs h=>ak.dep S w w' _ _ hs h
structure dP where
 l:Layout
 tracks:List (List Int)
 between:List (List Int)
 eZ:List (List Int)
 deriving DecidableEq,Inhabited
instance:ak dP where
 R:=(ak.R Layout)×(ak.R (List (List Int)))×(ak.R (List (List Int)))×(ak.R (List (List Int)))
 n:=7
 bytes:=168
 enc:=fun r x=>[.slice r.1.1.a x.l.bB.length r.1.1.cap,.slice r.1.2.1.a x.l.bN.length r.1.2.1.cap,.slice r.1.2.2.1.a x.l.Sections.length r.1.2.2.1.cap,.slice r.1.2.2.2.a x.l.Links.length r.1.2.2.2.cap,.slice r.2.1.a x.tracks.length r.2.1.cap,.slice r.2.2.1.a x.between.length r.2.2.1.cap,.slice r.2.2.2.a x.eZ.length r.2.2.2.cap]
 ok:=fun S w r x=>ak.ok S w r.1 x.l∧ak.ok S w r.2.1 x.tracks∧ak.ok S w r.2.2.1 x.between∧ak.ok S w r.2.2.2 x.eZ
 npos:=by decide
 bpos:=by decide
 len:=fun _ _=>rfl
 one:=fun r x v hv=>by
  have h:[.slice r.1.1.a x.l.bB.length r.1.1.cap,.slice r.1.2.1.a x.l.bN.length r.1.2.1.cap,.slice r.1.2.2.1.a x.l.Sections.length r.1.2.2.1.cap,.slice r.1.2.2.2.a x.l.Links.length r.1.2.2.2.cap,.slice r.2.1.a x.tracks.length r.2.1.cap,.slice r.2.2.1.a x.between.length r.2.2.1.cap,.slice r.2.2.2.a x.eZ.length r.2.2.2.cap].all Value.oneCell'=true:=rfl
  exact List.all_eq_true.1 h v hv
 mono:=fun S S' w r x hs ⟨h0,h1,h2,h3⟩=>⟨ak.mono S S' w _ _ hs h0,ak.mono S S' w _ _ hs h1,ak.mono S S' w _ _ hs h2,ak.mono S S' w _ _ hs h3⟩
 dep:=fun S w w' r x hs ⟨h0,h1,h2,h3⟩=>⟨ak.dep S w w' _ _ hs h0,ak.dep S w w' _ _ hs h1,ak.dep S w w' _ _ hs h2,ak.dep S w w' _ _ hs h3⟩
structure bL where
 Name:Str
 Length:Int
 zF:Int
 zx:Int
 zy:Int
 deriving DecidableEq,Inhabited
instance:ak bL where
 R:=Unit
 n:=5
 bytes:=48
 enc:=fun r x=>[.string x.Name.ba,.int .i64 x.Length,.int .i64 x.zF,.int .i64 x.zx,.int .i64 x.zy]
 ok:=fun S w r x=>True
 npos:=by decide
 bpos:=by decide
 len:=fun _ _=>rfl
 one:=fun r x v hv=>by
  have h:[.string x.Name.ba,.int .i64 x.Length,.int .i64 x.zF,.int .i64 x.zx,.int .i64 x.zy].all Value.oneCell'=true:=rfl
  exact List.all_eq_true.1 h v hv
 mono:=fun _ _ _ _ _ _ h=>h
 dep:=fun _ _ _ _ _ _ h=>h
structure vM where
 cells:List Cell
 first:Int
 deriving DecidableEq,Inhabited
instance:ak vM where
 R:=(ak.R (List Cell))
 n:=2
 bytes:=32
 enc:=fun r x=>[.slice r.a x.cells.length r.cap,.int .i64 x.first]
 ok:=fun S w r x=>ak.ok S w r x.cells
 npos:=by decide
 bpos:=by decide
 len:=fun _ _=>rfl
 one:=fun r x v hv=>by
  have h:[.slice r.a x.cells.length r.cap,.int .i64 x.first].all Value.oneCell'=true:=rfl
  exact List.all_eq_true.1 h v hv
 mono:=fun S S' w r x hs h=>ak.mono S S' w _ _ hs h
 dep:=fun S w w' r x hs h=>ak.dep S w w' _ _ hs h
structure gL where
 aO:Int
 Extra:Int
 Min:Int
 Max:Int
 deriving DecidableEq,Inhabited
instance:ak gL where
 R:=Unit
 n:=4
 bytes:=32
 enc:=fun r x=>[.int .i64 x.aO,.int .i64 x.Extra,.int .i64 x.Min,.int .i64 x.Max]
 ok:=fun S w r x=>True
 npos:=by decide
 bpos:=by decide
 len:=fun _ _=>rfl
 one:=fun r x v hv=>by
  have h:[.int .i64 x.aO,.int .i64 x.Extra,.int .i64 x.Min,.int .i64 x.Max].all Value.oneCell'=true:=rfl
  exact List.all_eq_true.1 h v hv
 mono:=fun _ _ _ _ _ _ h=>h
 dep:=fun _ _ _ _ _ _ h=>h
structure Line where
 Name:Str
 bL:Int
 Weight:Int
 bC:List gL
 deriving DecidableEq,Inhabited
instance:ak Line where
 R:=(ak.R (List gL))
 n:=4
 bytes:=56
 enc:=fun r x=>[.string x.Name.ba,.int .i64 x.bL,.int .i64 x.Weight,.slice r.a x.bC.length r.cap]
 ok:=fun S w r x=>ak.ok S w r x.bC
 npos:=by decide
 bpos:=by decide
 len:=fun _ _=>rfl
 one:=fun r x v hv=>by
  have h:[.string x.Name.ba,.int .i64 x.bL,.int .i64 x.Weight,.slice r.a x.bC.length r.cap].all Value.oneCell'=true:=rfl
  exact List.all_eq_true.1 h v hv
 mono:=fun S S' w r x hs h=>ak.mono S S' w _ _ hs h
 dep:=fun S w w' r x hs h=>ak.dep S w w' _ _ hs h
instance:Inner Line gL where
 get:=fun x=>x.bC
 rep:=fun r=>r
 okI:=fun _ _ _ _ h=>h
structure Change where
 gP:Int
 jQ:Int
 jM:Int
 nY:Int
 Min:Int
 Max:Int
 Weight:Int
 deriving DecidableEq,Inhabited
instance:ak Change where
 R:=Unit
 n:=7
 bytes:=56
 enc:=fun r x=>[.int .i64 x.gP,.int .i64 x.jQ,.int .i64 x.jM,.int .i64 x.nY,.int .i64 x.Min,.int .i64 x.Max,.int .i64 x.Weight]
 ok:=fun S w r x=>True
 npos:=by decide
 bpos:=by decide
 len:=fun _ _=>rfl
 one:=fun r x v hv=>by
  have h:[.int .i64 x.gP,.int .i64 x.jQ,.int .i64 x.jM,.int .i64 x.nY,.int .i64 x.Min,.int .i64 x.Max,.int .i64 x.Weight].all Value.oneCell'=true:=rfl
  exact List.all_eq_true.1 h v hv
 mono:=fun _ _ _ _ _ _ h=>h
 dep:=fun _ _ _ _ _ _ h=>h
structure Turn where
 From:Int
 To:Int
 Min:Int
 Max:Int
 deriving DecidableEq,Inhabited
instance:ak Turn where
 R:=Unit
 n:=4
 bytes:=32
 enc:=fun r x=>[.int .i64 x.From,.int .i64 x.To,.int .i64 x.Min,.int .i64 x.Max]
 ok:=fun S w r x=>True
 npos:=by decide
 bpos:=by decide
 len:=fun _ _=>rfl
 one:=fun r x v hv=>by
  have h:[.int .i64 x.From,.int .i64 x.To,.int .i64 x.Min,.int .i64 x.Max].all Value.oneCell'=true:=rfl
  exact List.all_eq_true.1 h v hv
 mono:=fun _ _ _ _ _ _ h=>h
 dep:=fun _ _ _ _ _ _ h=>h
structure Sync where
 qN:Int
 qO:Int
 q8:Int
 q9:Int
 Offset:Int
 deriving DecidableEq,Inhabited
instance:ak Sync where
 R:=Unit
 n:=5
 bytes:=40
 enc:=fun r x=>[.int .i64 x.qN,.int .i64 x.qO,.int .i64 x.q8,.int .i64 x.q9,.int .i64 x.Offset]
 ok:=fun S w r x=>True
 npos:=by decide
 bpos:=by decide
 len:=fun _ _=>rfl
 one:=fun r x v hv=>by
  have h:[.int .i64 x.qN,.int .i64 x.qO,.int .i64 x.q8,.int .i64 x.q9,.int .i64 x.Offset].all Value.oneCell'=true:=rfl
  exact List.all_eq_true.1 h v hv
 mono:=fun _ _ _ _ _ _ h=>h
 dep:=fun _ _ _ _ _ _ h=>h
structure iY where
 From:Int
 To:Int
 Weight:Int
 deriving DecidableEq,Inhabited
instance:ak iY where
 R:=Unit
 n:=3
 bytes:=24
 enc:=fun r x=>[.int .i64 x.From,.int .i64 x.To,.int .i64 x.Weight]
 ok:=fun S w r x=>True
 npos:=by decide
 bpos:=by decide
 len:=fun _ _=>rfl
 one:=fun r x v hv=>by
  have h:[.int .i64 x.From,.int .i64 x.To,.int .i64 x.Weight].all Value.oneCell'=true:=rfl
  exact List.all_eq_true.1 h v hv
 mono:=fun _ _ _ _ _ _ h=>h
 dep:=fun _ _ _ _ _ _ h=>h
structure Plan where
 eX:Int
 bJ:List bL
 Routes:List aO
 Lines:List Line
 Changes:List Change
 Turns:List Turn
 dx:List Sync
 dn:List iY
 deriving DecidableEq,Inhabited
instance:ak Plan where
 R:=(ak.R (List bL))×(ak.R (List aO))×(ak.R (List Line))×(ak.R (List Change))×(ak.R (List Turn))×(ak.R (List Sync))×(ak.R (List iY))
 n:=8
 bytes:=176
 enc:=fun r x=>[.int .i64 x.eX,.slice r.1.a x.bJ.length r.1.cap,.slice r.2.1.a x.Routes.length r.2.1.cap,.slice r.2.2.1.a x.Lines.length r.2.2.1.cap,.slice r.2.2.2.1.a x.Changes.length r.2.2.2.1.cap,.slice r.2.2.2.2.1.a x.Turns.length r.2.2.2.2.1.cap,.slice r.2.2.2.2.2.1.a x.dx.length r.2.2.2.2.2.1.cap,.slice r.2.2.2.2.2.2.a x.dn.length r.2.2.2.2.2.2.cap]
 ok:=fun S w r x=>ak.ok S w r.1 x.bJ∧ak.ok S w r.2.1 x.Routes∧ak.ok S w r.2.2.1 x.Lines∧ak.ok S w r.2.2.2.1 x.Changes∧ak.ok S w r.2.2.2.2.1 x.Turns∧ak.ok S w r.2.2.2.2.2.1 x.dx∧ak.ok S w r.2.2.2.2.2.2 x.dn
 npos:=by decide
 bpos:=by decide
 len:=fun _ _=>rfl
 one:=fun r x v hv=>by
  have h:[.int .i64 x.eX,.slice r.1.a x.bJ.length r.1.cap,.slice r.2.1.a x.Routes.length r.2.1.cap,.slice r.2.2.1.a x.Lines.length r.2.2.1.cap,.slice r.2.2.2.1.a x.Changes.length r.2.2.2.1.cap,.slice r.2.2.2.2.1.a x.Turns.length r.2.2.2.2.1.cap,.slice r.2.2.2.2.2.1.a x.dx.length r.2.2.2.2.2.1.cap,.slice r.2.2.2.2.2.2.a x.dn.length r.2.2.2.2.2.2.cap].all Value.oneCell'=true:=rfl
  exact List.all_eq_true.1 h v hv
 mono:=fun S S' w r x hs ⟨h0,h1,h2,h3,h4,h5,h6⟩=>⟨ak.mono S S' w _ _ hs h0,ak.mono S S' w _ _ hs h1,ak.mono S S' w _ _ hs h2,ak.mono S S' w _ _ hs h3,ak.mono S S' w _ _ hs h4,ak.mono S S' w _ _ hs h5,ak.mono S S' w _ _ hs h6⟩
 dep:=fun S w w' r x hs ⟨h0,h1,h2,h3,h4,h5,h6⟩=>⟨ak.dep S w w' _ _ hs h0,ak.dep S w w' _ _ hs h1,ak.dep S w w' _ _ hs h2,ak.dep S w w' _ _ hs h3,ak.dep S w w' _ _ hs h4,ak.dep S w w' _ _ hs h5,ak.dep S w w' _ _ hs h6⟩
structure Hop where
 To:Step
 Point:Int
 Pos:Int
 deriving DecidableEq,Inhabited
instance:ak Hop where
 R:=Unit
 n:=4
 bytes:=32
 enc:=fun r x=>[.int .i64 x.To.Section,.int .i64 x.To.Dir,.int .i64 x.Point,.int .i64 x.Pos]
 ok:=fun S w r x=>True
 npos:=by decide
 bpos:=by decide
 len:=fun _ _=>rfl
 one:=fun r x v hv=>by
  have h:[.int .i64 x.To.Section,.int .i64 x.To.Dir,.int .i64 x.Point,.int .i64 x.Pos].all Value.oneCell'=true:=rfl
  exact List.all_eq_true.1 h v hv
 mono:=fun _ _ _ _ _ _ h=>h
 dep:=fun _ _ _ _ _ _ h=>h
structure jA where
 From:Int
 To:Int
 Cap:Int
 wN:Int
 deriving DecidableEq,Inhabited
instance:ak jA where
 R:=Unit
 n:=4
 bytes:=32
 enc:=fun r x=>[.int .i64 x.From,.int .i64 x.To,.int .i64 x.Cap,.int .i64 x.wN]
 ok:=fun S w r x=>True
 npos:=by decide
 bpos:=by decide
 len:=fun _ _=>rfl
 one:=fun r x v hv=>by
  have h:[.int .i64 x.From,.int .i64 x.To,.int .i64 x.Cap,.int .i64 x.wN].all Value.oneCell'=true:=rfl
  exact List.all_eq_true.1 h v hv
 mono:=fun _ _ _ _ _ _ h=>h
 dep:=fun _ _ _ _ _ _ h=>h
structure Graph where
 gX:List Int
 iH:List jA
 deriving DecidableEq,Inhabited
instance:ak Graph where
 R:=(ak.R (List Int))×(ak.R (List jA))
 n:=2
 bytes:=48
 enc:=fun r x=>[.slice r.1.a x.gX.length r.1.cap,.slice r.2.a x.iH.length r.2.cap]
 ok:=fun S w r x=>ak.ok S w r.1 x.gX∧ak.ok S w r.2 x.iH
 npos:=by decide
 bpos:=by decide
 len:=fun _ _=>rfl
 one:=fun r x v hv=>by
  have h:[.slice r.1.a x.gX.length r.1.cap,.slice r.2.a x.iH.length r.2.cap].all Value.oneCell'=true:=rfl
  exact List.all_eq_true.1 h v hv
 mono:=fun S S' w r x hs ⟨h0,h1⟩=>⟨ak.mono S S' w _ _ hs h0,ak.mono S S' w _ _ hs h1⟩
 dep:=fun S w w' r x hs ⟨h0,h1⟩=>⟨ak.dep S w w' _ _ hs h0,ak.dep S w w' _ _ hs h1⟩
structure fD where
 nodes:Int
 kW:Int
 to:List Int
 left:List Int
 cost:List Int
 from_:List (List Int)
 excess:List Int
 price:List Int
 deriving DecidableEq,Inhabited
instance:ak fD where
 R:=(ak.R (List Int))×(ak.R (List Int))×(ak.R (List Int))×(ak.R (List (List Int)))×(ak.R (List Int))×(ak.R (List Int))
 n:=8
 bytes:=160
 enc:=fun r x=>[.int .i64 x.nodes,.int .i64 x.kW,.slice r.1.a x.to.length r.1.cap,.slice r.2.1.a x.left.length r.2.1.cap,.slice r.2.2.1.a x.cost.length r.2.2.1.cap,.slice r.2.2.2.1.a x.from_.length r.2.2.2.1.cap,.slice r.2.2.2.2.1.a x.excess.length r.2.2.2.2.1.cap,.slice r.2.2.2.2.2.a x.price.length r.2.2.2.2.2.cap]
 ok:=fun S w r x=>ak.ok S w r.1 x.to∧ak.ok S w r.2.1 x.left∧ak.ok S w r.2.2.1 x.cost∧ak.ok S w r.2.2.2.1 x.from_∧ak.ok S w r.2.2.2.2.1 x.excess∧ak.ok S w r.2.2.2.2.2 x.price
 npos:=by decide
 bpos:=by decide
 len:=fun _ _=>rfl
 one:=fun r x v hv=>by
  have h:[.int .i64 x.nodes,.int .i64 x.kW,.slice r.1.a x.to.length r.1.cap,.slice r.2.1.a x.left.length r.2.1.cap,.slice r.2.2.1.a x.cost.length r.2.2.1.cap,.slice r.2.2.2.1.a x.from_.length r.2.2.2.1.cap,.slice r.2.2.2.2.1.a x.excess.length r.2.2.2.2.1.cap,.slice r.2.2.2.2.2.a x.price.length r.2.2.2.2.2.cap].all Value.oneCell'=true:=rfl
  exact List.all_eq_true.1 h v hv
 mono:=fun S S' w r x hs ⟨h0,h1,h2,h3,h4,h5⟩=>⟨ak.mono S S' w _ _ hs h0,ak.mono S S' w _ _ hs h1,ak.mono S S' w _ _ hs h2,ak.mono S S' w _ _ hs h3,ak.mono S S' w _ _ hs h4,ak.mono S S' w _ _ hs h5⟩
 dep:=fun S w w' r x hs ⟨h0,h1,h2,h3,h4,h5⟩=>⟨ak.dep S w w' _ _ hs h0,ak.dep S w w' _ _ hs h1,ak.dep S w w' _ _ hs h2,ak.dep S w w' _ _ hs h3,ak.dep S w w' _ _ hs h4,ak.dep S w w' _ _ hs h5⟩
structure Flow where
 X:List Int
 Fp:List Int
 wN:Int
 deriving DecidableEq,Inhabited
instance:ak Flow where
 R:=(ak.R (List Int))×(ak.R (List Int))
 n:=3
 bytes:=56
 enc:=fun r x=>[.slice r.1.a x.X.length r.1.cap,.slice r.2.a x.Fp.length r.2.cap,.int .i64 x.wN]
 ok:=fun S w r x=>ak.ok S w r.1 x.X∧ak.ok S w r.2 x.Fp
 npos:=by decide
 bpos:=by decide
 len:=fun _ _=>rfl
 one:=fun r x v hv=>by
  have h:[.slice r.1.a x.X.length r.1.cap,.slice r.2.a x.Fp.length r.2.cap,.int .i64 x.wN].all Value.oneCell'=true:=rfl
  exact List.all_eq_true.1 h v hv
 mono:=fun S S' w r x hs ⟨h0,h1⟩=>⟨ak.mono S S' w _ _ hs h0,ak.mono S S' w _ _ hs h1⟩
 dep:=fun S w w' r x hs ⟨h0,h1⟩=>⟨ak.dep S w w' _ _ hs h0,ak.dep S w w' _ _ hs h1⟩
structure Task where
 zG:Int
 From:Int
 To:Int
 Start:Int
 End:Int
 deriving DecidableEq,Inhabited
instance:ak Task where
 R:=Unit
 n:=5
 bytes:=40
 enc:=fun r x=>[.int .i64 x.zG,.int .i64 x.From,.int .i64 x.To,.int .i64 x.Start,.int .i64 x.End]
 ok:=fun S w r x=>True
 npos:=by decide
 bpos:=by decide
 len:=fun _ _=>rfl
 one:=fun r x v hv=>by
  have h:[.int .i64 x.zG,.int .i64 x.From,.int .i64 x.To,.int .i64 x.Start,.int .i64 x.End].all Value.oneCell'=true:=rfl
  exact List.all_eq_true.1 h v hv
 mono:=fun _ _ _ _ _ _ h=>h
 dep:=fun _ _ _ _ _ _ h=>h
theorem ahf(x y:Task):decide (x=y)=true↔([.int .i64 x.zG,.int .i64 x.From,.int .i64 x.To,.int .i64 x.Start,.int .i64 x.End]:List Value)=[.int .i64 y.zG,.int .i64 y.From,.int .i64 y.To,.int .i64 y.Start,.int .i64 y.End]:=by
 constructor
 ·intro h;rw[of_decide_eq_true h]
 ·intro h
  obtain⟨a_1,a_2,C8,a_4,a_5⟩:=x
  obtain⟨b_1,XD,b_3,b_4,b_5⟩:=y
  simp only[List.cons.injEq,Value.int.injEq,Value.bool.injEq,Value.string.injEq,Str.Td,true_and,and_true] at h
  simp only[decide_eq_true_eq,Task.mk.injEq]
  simp_all
structure Ej where
 From:Int
 To:Int
 xD:Int
 deriving DecidableEq,Inhabited
instance:ak Ej where
 R:=Unit
 n:=3
 bytes:=24
 enc:=fun r x=>[.int .i64 x.From,.int .i64 x.To,.int .i64 x.xD]
 ok:=fun S w r x=>True
 npos:=by decide
 bpos:=by decide
 len:=fun _ _=>rfl
 one:=fun r x v hv=>by
  have h:[.int .i64 x.From,.int .i64 x.To,.int .i64 x.xD].all Value.oneCell'=true:=rfl
  exact List.all_eq_true.1 h v hv
 mono:=fun _ _ _ _ _ _ h=>h
 dep:=fun _ _ _ _ _ _ h=>h
structure Rules where
 Turn:Int
 fB:List Ej
 gW:List Int
 Service:Int
 Limit:Int
 deriving DecidableEq,Inhabited
instance:ak Rules where
 R:=(ak.R (List Ej))×(ak.R (List Int))
 n:=5
 bytes:=72
 enc:=fun r x=>[.int .i64 x.Turn,.slice r.1.a x.fB.length r.1.cap,.slice r.2.a x.gW.length r.2.cap,.int .i64 x.Service,.int .i64 x.Limit]
 ok:=fun S w r x=>ak.ok S w r.1 x.fB∧ak.ok S w r.2 x.gW
 npos:=by decide
 bpos:=by decide
 len:=fun _ _=>rfl
 one:=fun r x v hv=>by
  have h:[.int .i64 x.Turn,.slice r.1.a x.fB.length r.1.cap,.slice r.2.a x.gW.length r.2.cap,.int .i64 x.Service,.int .i64 x.Limit].all Value.oneCell'=true:=rfl
  exact List.all_eq_true.1 h v hv
 mono:=fun S S' w r x hs ⟨h0,h1⟩=>⟨ak.mono S S' w _ _ hs h0,ak.mono S S' w _ _ hs h1⟩
 dep:=fun S w w' r x hs ⟨h0,h1⟩=>⟨ak.dep S w w' _ _ hs h0,ak.dep S w w' _ _ hs h1⟩
structure gF where
 Left:List Int
 Right:List Int
 deriving DecidableEq,Inhabited
instance:ak gF where
 R:=(ak.R (List Int))×(ak.R (List Int))
 n:=2
 bytes:=48
 enc:=fun r x=>[.slice r.1.a x.Left.length r.1.cap,.slice r.2.a x.Right.length r.2.cap]
 ok:=fun S w r x=>ak.ok S w r.1 x.Left∧ak.ok S w r.2 x.Right
 npos:=by decide
 bpos:=by decide
 len:=fun _ _=>rfl
 one:=fun r x v hv=>by
  have h:[.slice r.1.a x.Left.length r.1.cap,.slice r.2.a x.Right.length r.2.cap].all Value.oneCell'=true:=rfl
  exact List.all_eq_true.1 h v hv
 mono:=fun S S' w r x hs ⟨h0,h1⟩=>⟨ak.mono S S' w _ _ hs h0,ak.mono S S' w _ _ hs h1⟩
 dep:=fun S w w' r x hs ⟨h0,h1⟩=>⟨ak.dep S w w' _ _ hs h0,ak.dep S w w' _ _ hs h1⟩
structure dG where
 Line:Int
 Day:Int
 dA:List Int
 cK:List Int
 deriving DecidableEq,Inhabited
instance:ak dG where
 R:=(ak.R (List Int))×(ak.R (List Int))
 n:=4
 bytes:=64
 enc:=fun r x=>[.int .i64 x.Line,.int .i64 x.Day,.slice r.1.a x.dA.length r.1.cap,.slice r.2.a x.cK.length r.2.cap]
 ok:=fun S w r x=>ak.ok S w r.1 x.dA∧ak.ok S w r.2 x.cK
 npos:=by decide
 bpos:=by decide
 len:=fun _ _=>rfl
 one:=fun r x v hv=>by
  have h:[.int .i64 x.Line,.int .i64 x.Day,.slice r.1.a x.dA.length r.1.cap,.slice r.2.a x.cK.length r.2.cap].all Value.oneCell'=true:=rfl
  exact List.all_eq_true.1 h v hv
 mono:=fun S S' w r x hs ⟨h0,h1⟩=>⟨ak.mono S S' w _ _ hs h0,ak.mono S S' w _ _ hs h1⟩
 dep:=fun S w w' r x hs ⟨h0,h1⟩=>⟨ak.dep S w w' _ _ hs h0,ak.dep S w w' _ _ hs h1⟩
abbrev alQ:SR (ak.R jA):=⟨none,0,(fun _=>())⟩
abbrev EP:SR (ak.R Cell):=⟨none,0,(fun _=>())⟩
abbrev xY:SR (ak.R Change):=⟨none,0,(fun _=>())⟩
abbrev rJ:SR (ak.R iY):=⟨none,0,(fun _=>())⟩
abbrev alR:SR (ak.R Ej):=⟨none,0,(fun _=>())⟩
abbrev alS:SR (ak.R Hop):=⟨none,0,(fun _=>())⟩
abbrev eB:SR (ak.R Int):=⟨none,0,(fun _=>())⟩
abbrev Cg:SR (ak.R Line):=⟨none,0,(fun _=>(⟨none,0,(fun _=>())⟩:SR (ak.R gL)))⟩
abbrev xZ:SR (ak.R Link):=⟨none,0,(fun _=>())⟩
abbrev iC:SR (ak.R (List Int)):=⟨none,0,(fun _=>(⟨none,0,(fun _=>())⟩:SR (ak.R Int)))⟩
abbrev UO:SR (ak.R gL):=⟨none,0,(fun _=>())⟩
abbrev Ch:SR (ak.R aO):=⟨none,0,(fun _=>(⟨none,0,(fun _=>())⟩:SR (ak.R Step)))⟩
abbrev Ci:SR (ak.R Section):=⟨none,0,(fun _=>())⟩
abbrev ER:SR (ak.R Step):=⟨none,0,(fun _=>())⟩
abbrev DU:SR (ak.R bL):=⟨none,0,(fun _=>())⟩
abbrev oJ:SR (ak.R Str):=⟨none,0,(fun _=>())⟩
abbrev su:SR (ak.R Sync):=⟨none,0,(fun _=>())⟩
abbrev Gd:SR (ak.R Task):=⟨none,0,(fun _=>())⟩
abbrev za:SR (ak.R Turn):=⟨none,0,(fun _=>())⟩
abbrev Bc(x:Section):List Value:=[.string x.Name.ba,vI x.Length,vI x.Limit,vI x.kr,vI x.nN]
abbrev abH(x:Section):Array Value:=(Bc x).toArray
abbrev uF(x:Link):List Value:=[vI x.A,vI x.dQ,vI x.B,vI x.dV,vI x.Point,vI x.Pos]
abbrev ahh(x:Link):Array Value:=(uF x).toArray
abbrev eD(x:Layout)(r:ak.R Layout):List Value:=[sL r.1 x.bB,sL r.2.1 x.bN,sL r.2.2.1 x.Sections,sL r.2.2.2 x.Links]
abbrev lX(x:Layout)(r:ak.R Layout):Array Value:=(eD x r).toArray
abbrev Qs(x:qp):List Value:=[vI x.tZ,vI x.end_]
abbrev abF(x:qp):Array Value:=(Qs x).toArray
abbrev rM(x:Step):List Value:=[vI x.Section,vI x.Dir]
abbrev Fq(x:Step):Array Value:=(rM x).toArray
abbrev kL(x:mM):List Value:=[vI x.tZ,vI x.side]
abbrev ahi(x:mM):Array Value:=(kL x).toArray
abbrev jV(x:aO)(r:ak.R aO):List Value:=[sL r x.Steps,vI x.Overlap]
abbrev Ao(x:aO)(r:ak.R aO):Array Value:=(jV x r).toArray
abbrev DV(x:bS)(r:ak.R bS):List Value:=[sL r x.l,vI x.i]
abbrev sw(x:dP)(r:ak.R dP):List Value:=[sL r.1.1 x.l.bB,sL r.1.2.1 x.l.bN,sL r.1.2.2.1 x.l.Sections,sL r.1.2.2.2 x.l.Links,sL r.2.1 x.tracks,sL r.2.2.1 x.between,sL r.2.2.2 x.eZ]
abbrev vg(x:bL):List Value:=[.string x.Name.ba,vI x.Length,vI x.zF,vI x.zx,vI x.zy]
abbrev IX(x:bL):Array Value:=(vg x).toArray
abbrev ae1(x:vM)(r:ak.R vM):List Value:=[sL r x.cells,vI x.first]
abbrev Xx(x:vM)(r:ak.R vM):Array Value:=(ae1 x r).toArray
abbrev Bb(x:gL):List Value:=[vI x.aO,vI x.Extra,vI x.Min,vI x.Max]
abbrev abG(x:gL):Array Value:=(Bb x).toArray
abbrev mR(x:Line)(r:ak.R Line):List Value:=[.string x.Name.ba,vI x.bL,vI x.Weight,sL r x.bC]
abbrev Xz(x:Line)(r:ak.R Line):Array Value:=(mR x r).toArray
abbrev Qq(x:Change):List Value:=[vI x.gP,vI x.jQ,vI x.jM,vI x.nY,vI x.Min,vI x.Max,vI x.Weight]
abbrev ahg(x:Change):Array Value:=(Qq x).toArray
abbrev Bd(x:Turn):List Value:=[vI x.From,vI x.To,vI x.Min,vI x.Max]
abbrev abJ(x:Turn):Array Value:=(Bd x).toArray
abbrev UR(x:Sync):List Value:=[vI x.qN,vI x.qO,vI x.q8,vI x.q9,vI x.Offset]
abbrev UQ(x:iY):List Value:=[vI x.From,vI x.To,vI x.Weight]
abbrev fZ(x:Plan)(r:ak.R Plan):List Value:=[vI x.eX,sL r.1 x.bJ,sL r.2.1 x.Routes,sL r.2.2.1 x.Lines,sL r.2.2.2.1 x.Changes,sL r.2.2.2.2.1 x.Turns,sL r.2.2.2.2.2.1 x.dx,sL r.2.2.2.2.2.2 x.dn]
abbrev mO(x:Plan)(r:ak.R Plan):Array Value:=(fZ x r).toArray
abbrev Qr(x:Hop):List Value:=[vI x.To.Section,vI x.To.Dir,vI x.Point,vI x.Pos]
abbrev N9(x:Hop):Array Value:=(Qr x).toArray
abbrev Mw(x:jA):List Value:=[vI x.From,vI x.To,vI x.Cap,vI x.wN]
abbrev JJ(x:Graph)(r:ak.R Graph):List Value:=[sL r.1 x.gX,sL r.2 x.iH]
abbrev Xy(x:Graph)(r:ak.R Graph):Array Value:=(JJ x r).toArray
abbrev nT(x:fD)(r:ak.R fD):List Value:=[vI x.nodes,vI x.kW,sL r.1 x.to,sL r.2.1 x.left,sL r.2.2.1 x.cost,sL r.2.2.2.1 x.from_,sL r.2.2.2.2.1 x.excess,sL r.2.2.2.2.2 x.price]
abbrev Mx(x:Flow)(r:ak.R Flow):List Value:=[sL r.1 x.X,sL r.2 x.Fp,vI x.wN]
abbrev SQ(x:Flow)(r:ak.R Flow):Array Value:=(Mx x r).toArray
abbrev qh(x:Task):List Value:=[vI x.zG,vI x.From,vI x.To,vI x.Start,vI x.End]
abbrev SS(x:Task):Array Value:=(qh x).toArray
abbrev Hg(x:Ej):List Value:=[vI x.From,vI x.To,vI x.xD]
abbrev kS(x:Rules)(r:ak.R Rules):List Value:=[vI x.Turn,sL r.1 x.fB,sL r.2 x.gW,vI x.Service,vI x.Limit]
abbrev BK(x:Rules)(r:ak.R Rules):Array Value:=(kS x r).toArray
abbrev JI(x:gF)(r:ak.R gF):List Value:=[sL r.1 x.Left,sL r.2 x.Right]
abbrev IW(x:gF)(r:ak.R gF):Array Value:=(JI x r).toArray
abbrev DW(x:dG)(r:ak.R dG):List Value:=[vI x.Line,vI x.Day,sL r.1 x.dA,sL r.2 x.cK]
abbrev abI(x:dG)(r:ak.R dG):Array Value:=(DW x r).toArray
end Go.Proofs.YtcalibhfgdncaaaGreat
namespace Go.Dc
open Go.Proofs.YtcalibhfgdncaaaGreat Go.RowKit
theorem Mem.ny{S:bF}{w:World}{cs H:List Chunk}{r:ak.R Layout}{x:Layout}(hm:Mem (sJ w S cs) H w)(h:ak.ok S w r x):Mem (sJ w S cs) (cO (α:=List Link) r.2.2.2 x.Links::cO (α:=List Section) r.2.2.1 x.Sections::cO (α:=List Str) r.2.1 x.bN::cO (α:=List Str) r.1 x.bB::H) w:=
 hm |>.dZ (α:=List Str) (r:=r.1) (x:=x.bB) h.1 |>.dZ (α:=List Str) (r:=r.2.1) (x:=x.bN) h.2.1 |>.dZ (α:=List Section) (r:=r.2.2.1) (x:=x.Sections) h.2.2.1 |>.dZ (α:=List Link) (r:=r.2.2.2) (x:=x.Links) h.2.2.2
theorem Mem.oL{S:bF}{w:World}{cs H:List Chunk}{r:ak.R Plan}{x:Plan}(hm:Mem (sJ w S cs) H w)(h:ak.ok S w r x):Mem (sJ w S cs) (cO (α:=List iY) r.2.2.2.2.2.2 x.dn::cO (α:=List Sync) r.2.2.2.2.2.1 x.dx::cO (α:=List Turn) r.2.2.2.2.1 x.Turns::cO (α:=List Change) r.2.2.2.1 x.Changes::cO (α:=List Line) r.2.2.1 x.Lines::cO (α:=List aO) r.2.1 x.Routes::cO (α:=List bL) r.1 x.bJ::H) w:=
 hm |>.dZ (α:=List bL) (r:=r.1) (x:=x.bJ) h.1 |>.dZ (α:=List aO) (r:=r.2.1) (x:=x.Routes) h.2.1 |>.dZ (α:=List Line) (r:=r.2.2.1) (x:=x.Lines) h.2.2.1 |>.dZ (α:=List Change) (r:=r.2.2.2.1) (x:=x.Changes) h.2.2.2.1 |>.dZ (α:=List Turn) (r:=r.2.2.2.2.1) (x:=x.Turns) h.2.2.2.2.1 |>.dZ (α:=List Sync) (r:=r.2.2.2.2.2.1) (x:=x.dx) h.2.2.2.2.2.1 |>.dZ (α:=List iY) (r:=r.2.2.2.2.2.2) (x:=x.dn) h.2.2.2.2.2.2
theorem Mem.aam{S:bF}{w:World}{cs H:List Chunk}{r:ak.R Graph}{x:Graph}(hm:Mem (sJ w S cs) H w)(h:ak.ok S w r x):Mem (sJ w S cs) (cO (α:=List jA) r.2 x.iH::cO (α:=List Int) r.1 x.gX::H) w:=
 hm |>.dZ (α:=List Int) (r:=r.1) (x:=x.gX) h.1 |>.dZ (α:=List jA) (r:=r.2) (x:=x.iH) h.2
theorem Mem.aal{S:bF}{w:World}{cs H:List Chunk}{r:ak.R fD}{x:fD}(hm:Mem (sJ w S cs) H w)(h:ak.ok S w r x):Mem (sJ w S cs) (cO (α:=List Int) r.2.2.2.2.2 x.price::cO (α:=List Int) r.2.2.2.2.1 x.excess::cO (α:=List (List Int)) r.2.2.2.1 x.from_::cO (α:=List Int) r.2.2.1 x.cost::cO (α:=List Int) r.2.1 x.left::cO (α:=List Int) r.1 x.to::H) w:=
 hm |>.dZ (α:=List Int) (r:=r.1) (x:=x.to) h.1 |>.dZ (α:=List Int) (r:=r.2.1) (x:=x.left) h.2.1 |>.dZ (α:=List Int) (r:=r.2.2.1) (x:=x.cost) h.2.2.1 |>.dZ (α:=List (List Int)) (r:=r.2.2.2.1) (x:=x.from_) h.2.2.2.1 |>.dZ (α:=List Int) (r:=r.2.2.2.2.1) (x:=x.excess) h.2.2.2.2.1 |>.dZ (α:=List Int) (r:=r.2.2.2.2.2) (x:=x.price) h.2.2.2.2.2
theorem Mem.Hq{S:bF}{w:World}{cs H:List Chunk}{r:ak.R Rules}{x:Rules}(hm:Mem (sJ w S cs) H w)(h:ak.ok S w r x):Mem (sJ w S cs) (cO (α:=List Int) r.2 x.gW::cO (α:=List Ej) r.1 x.fB::H) w:=
 hm |>.dZ (α:=List Ej) (r:=r.1) (x:=x.fB) h.1 |>.dZ (α:=List Int) (r:=r.2) (x:=x.gW) h.2
theorem Mem.al6{S:bF}{w:World}{cs H:List Chunk}{r:ak.R gF}{x:gF}(hm:Mem (sJ w S cs) H w)(h:ak.ok S w r x):Mem (sJ w S cs) (cO (α:=List Int) r.2 x.Right::cO (α:=List Int) r.1 x.Left::H) w:=
 hm |>.dZ (α:=List Int) (r:=r.1) (x:=x.Left) h.1 |>.dZ (α:=List Int) (r:=r.2) (x:=x.Right) h.2
theorem Mem.ae9{S:bF}{w:World}{cs H:List Chunk}{r:ak.R dG}{x:dG}(hm:Mem (sJ w S cs) H w)(h:ak.ok S w r x):Mem (sJ w S cs) (cO (α:=List Int) r.2 x.cK::cO (α:=List Int) r.1 x.dA::H) w:=
 hm |>.dZ (α:=List Int) (r:=r.1) (x:=x.dA) h.1 |>.dZ (α:=List Int) (r:=r.2) (x:=x.cK) h.2
end Go.Dc

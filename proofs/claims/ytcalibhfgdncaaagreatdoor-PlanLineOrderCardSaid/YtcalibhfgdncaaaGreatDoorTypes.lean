/- The program's types as plain data. -/
import Derived.Test.YtcalibhfgdncaaaGreatDoorChecked
import Derived.Test.YtcalibhfgdncaaaGreatDoorDn
namespace Go.Proofs.YtcalibhfgdncaaaGreatDoor
open Go.Dc Go.RowKit
set_option maxRecDepth 10000
set_option linter.all false
structure Section where
 Name:Str
 Length:Int
 Limit:Int
 jM:Int
 nH:Int
 deriving DecidableEq,Inhabited
instance:ah Section where
 R:=Unit
 n:=5
 bytes:=48
 enc:=fun r x=>[.string x.Name.ba,.int .i64 x.Length,.int .i64 x.Limit,.int .i64 x.jM,.int .i64 x.nH]
 ok:=fun S w r x=>True
 npos:=by decide
 bpos:=by decide
 len:=fun _ _=>rfl
 one:=fun r x v hv=>by
  have h:[.string x.Name.ba,.int .i64 x.Length,.int .i64 x.Limit,.int .i64 x.jM,.int .i64 x.nH].all Value.oneCell'=true:=rfl
  exact List.all_eq_true.1 h v hv
 mono:=fun _ _ _ _ _ _ h=>h
 dep:=fun _ _ _ _ _ _ h=>h
structure Link where
 A:Int
 dD:Int
 B:Int
 dN:Int
 Point:Int
 Pos:Int
 deriving DecidableEq,Inhabited
instance:ah Link where
 R:=Unit
 n:=6
 bytes:=48
 enc:=fun r x=>[.int .i64 x.A,.int .i64 x.dD,.int .i64 x.B,.int .i64 x.dN,.int .i64 x.Point,.int .i64 x.Pos]
 ok:=fun S w r x=>True
 npos:=by decide
 bpos:=by decide
 len:=fun _ _=>rfl
 one:=fun r x v hv=>by
  have h:[.int .i64 x.A,.int .i64 x.dD,.int .i64 x.B,.int .i64 x.dN,.int .i64 x.Point,.int .i64 x.Pos].all Value.oneCell'=true:=rfl
  exact List.all_eq_true.1 h v hv
 mono:=fun _ _ _ _ _ _ h=>h
 dep:=fun _ _ _ _ _ _ h=>h
structure Layout where
 aT:List Str
 bE:List Str
 Sections:List Section
 Links:List Link
 deriving DecidableEq,Inhabited
instance:ah Layout where
 R:=(ah.R (List Str))×(ah.R (List Str))×(ah.R (List Section))×(ah.R (List Link))
 n:=4
 bytes:=96
 enc:=fun r x=>[.slice r.1.a x.aT.length r.1.cap,.slice r.2.1.a x.bE.length r.2.1.cap,.slice r.2.2.1.a x.Sections.length r.2.2.1.cap,.slice r.2.2.2.a x.Links.length r.2.2.2.cap]
 ok:=fun S w r x=>ah.ok S w r.1 x.aT∧ah.ok S w r.2.1 x.bE∧ah.ok S w r.2.2.1 x.Sections∧ah.ok S w r.2.2.2 x.Links
 npos:=by decide
 bpos:=by decide
 len:=fun _ _=>rfl
 one:=fun r x v hv=>by
  have h:[.slice r.1.a x.aT.length r.1.cap,.slice r.2.1.a x.bE.length r.2.1.cap,.slice r.2.2.1.a x.Sections.length r.2.2.1.cap,.slice r.2.2.2.a x.Links.length r.2.2.2.cap].all Value.oneCell'=true:=rfl
  exact List.all_eq_true.1 h v hv
 mono:=fun S S' w r x hs ⟨h0,h1,h2,h3⟩=>⟨ah.mono S S' w _ _ hs h0,ah.mono S S' w _ _ hs h1,ah.mono S S' w _ _ hs h2,ah.mono S S' w _ _ hs h3⟩
 dep:=fun S w w' r x hs ⟨h0,h1,h2,h3⟩=>⟨ah.dep S w w' _ _ hs h0,ah.dep S w w' _ _ hs h1,ah.dep S w w' _ _ hs h2,ah.dep S w w' _ _ hs h3⟩
structure Word where
 Text:Str
 Line:Int
 Col:Int
 deriving DecidableEq,Inhabited
instance:ah Word where
 R:=Unit
 n:=3
 bytes:=32
 enc:=fun r x=>[.string x.Text.ba,.int .i64 x.Line,.int .i64 x.Col]
 ok:=fun S w r x=>True
 npos:=by decide
 bpos:=by decide
 len:=fun _ _=>rfl
 one:=fun r x v hv=>by
  have h:[.string x.Text.ba,.int .i64 x.Line,.int .i64 x.Col].all Value.oneCell'=true:=rfl
  exact List.all_eq_true.1 h v hv
 mono:=fun _ _ _ _ _ _ h=>h
 dep:=fun _ _ _ _ _ _ h=>h
structure oW where
 sP:Int
 end_:Int
 deriving DecidableEq,Inhabited
instance:ah oW where
 R:=Unit
 n:=2
 bytes:=16
 enc:=fun r x=>[.int .i64 x.sP,.int .i64 x.end_]
 ok:=fun S w r x=>True
 npos:=by decide
 bpos:=by decide
 len:=fun _ _=>rfl
 one:=fun r x v hv=>by
  have h:[.int .i64 x.sP,.int .i64 x.end_].all Value.oneCell'=true:=rfl
  exact List.all_eq_true.1 h v hv
 mono:=fun _ _ _ _ _ _ h=>h
 dep:=fun _ _ _ _ _ _ h=>h
theorem ama(x y:oW):decide (x=y)=true↔([.int .i64 x.sP,.int .i64 x.end_]:List Value)=[.int .i64 y.sP,.int .i64 y.end_]:=by
 constructor
 ·intro h;rw[of_decide_eq_true h]
 ·intro h
  obtain⟨a_1,a_2⟩:=x
  obtain⟨b_1,Il⟩:=y
  simp only[List.cons.injEq,Value.int.injEq,Value.bool.injEq,Value.string.injEq,Str.F4,true_and,and_true] at h
  simp only[decide_eq_true_eq,oW.mk.injEq]
  simp_all
structure Step where
 Section:Int
 Dir:Int
 deriving DecidableEq,Inhabited
instance:ah Step where
 R:=Unit
 n:=2
 bytes:=16
 enc:=fun r x=>[.int .i64 x.Section,.int .i64 x.Dir]
 ok:=fun S w r x=>True
 npos:=by decide
 bpos:=by decide
 len:=fun _ _=>rfl
 one:=fun r x v hv=>by
  have h:[.int .i64 x.Section,.int .i64 x.Dir].all Value.oneCell'=true:=rfl
  exact List.all_eq_true.1 h v hv
 mono:=fun _ _ _ _ _ _ h=>h
 dep:=fun _ _ _ _ _ _ h=>h
theorem agt(x y:Step):decide (x=y)=true↔([.int .i64 x.Section,.int .i64 x.Dir]:List Value)=[.int .i64 y.Section,.int .i64 y.Dir]:=by
 constructor
 ·intro h;rw[of_decide_eq_true h]
 ·intro h
  obtain⟨a_1,a_2⟩:=x
  obtain⟨b_1,Il⟩:=y
  simp only[List.cons.injEq,Value.int.injEq,Value.bool.injEq,Value.string.injEq,Str.F4,true_and,and_true] at h
  simp only[decide_eq_true_eq,Step.mk.injEq]
  simp_all
structure lW where
 sP:Int
 side:Int
 deriving DecidableEq,Inhabited
instance:ah lW where
 R:=Unit
 n:=2
 bytes:=16
 enc:=fun r x=>[.int .i64 x.sP,.int .i64 x.side]
 ok:=fun S w r x=>True
 npos:=by decide
 bpos:=by decide
 len:=fun _ _=>rfl
 one:=fun r x v hv=>by
  have h:[.int .i64 x.sP,.int .i64 x.side].all Value.oneCell'=true:=rfl
  exact List.all_eq_true.1 h v hv
 mono:=fun _ _ _ _ _ _ h=>h
 dep:=fun _ _ _ _ _ _ h=>h
theorem Xv(x y:lW):decide (x=y)=true↔([.int .i64 x.sP,.int .i64 x.side]:List Value)=[.int .i64 y.sP,.int .i64 y.side]:=by
 constructor
 ·intro h;rw[of_decide_eq_true h]
 ·intro h
  obtain⟨a_1,a_2⟩:=x
  obtain⟨b_1,Il⟩:=y
  simp only[List.cons.injEq,Value.int.injEq,Value.bool.injEq,Value.string.injEq,Str.F4,true_and,and_true] at h
  simp only[decide_eq_true_eq,lW.mk.injEq]
  simp_all
structure aG where
 Steps:List Step
 Overlap:Int
 deriving DecidableEq,Inhabited
instance:ah aG where
 R:=(ah.R (List Step))
 n:=2
 bytes:=32
 enc:=fun r x=>[.slice r.a x.Steps.length r.cap,.int .i64 x.Overlap]
 ok:=fun S w r x=>ah.ok S w r x.Steps
 npos:=by decide
 bpos:=by decide
 len:=fun _ _=>rfl
 one:=fun r x v hv=>by
  have h:[.slice r.a x.Steps.length r.cap,.int .i64 x.Overlap].all Value.oneCell'=true:=rfl
  exact List.all_eq_true.1 h v hv
 mono:=fun S S' w r x hs h=>ah.mono S S' w _ _ hs h
 dep:=fun S w w' r x hs h=>ah.dep S w w' _ _ hs h
structure Cell where
 Limit:Int
 jM:Int
 deriving DecidableEq,Inhabited
instance:ah Cell where
 R:=Unit
 n:=2
 bytes:=16
 enc:=fun r x=>[.int .i64 x.Limit,.int .i64 x.jM]
 ok:=fun S w r x=>True
 npos:=by decide
 bpos:=by decide
 len:=fun _ _=>rfl
 one:=fun r x v hv=>by
  have h:[.int .i64 x.Limit,.int .i64 x.jM].all Value.oneCell'=true:=rfl
  exact List.all_eq_true.1 h v hv
 mono:=fun _ _ _ _ _ _ h=>h
 dep:=fun _ _ _ _ _ _ h=>h
structure bN where
 l:List Int
 i:Int
 deriving DecidableEq,Inhabited
instance:ah bN where
 R:=(ah.R (List Int))
 n:=2
 bytes:=32
 enc:=fun r x=>[.slice r.a x.l.length r.cap,.int .i64 x.i]
 ok:=fun S w r x=>ah.ok S w r x.l
 npos:=by decide
 bpos:=by decide
 len:=fun _ _=>rfl
 one:=fun r x v hv=>by
  have h:[.slice r.a x.l.length r.cap,.int .i64 x.i].all Value.oneCell'=true:=rfl
  exact List.all_eq_true.1 h v hv
 mono:=fun S S' w r x hs h=>ah.mono S S' w _ _ hs h
 dep:=fun S w w' r x hs h=>ah.dep S w w' _ _ hs h
structure dB where
 l:Layout
 tracks:List (List Int)
 between:List (List Int)
 jU:List (List Int)
 deriving DecidableEq,Inhabited
instance:ah dB where
 R:=(ah.R Layout)×(ah.R (List (List Int)))×(ah.R (List (List Int)))×(ah.R (List (List Int)))
 n:=7
 bytes:=168
 enc:=fun r x=>[.slice r.1.1.a x.l.aT.length r.1.1.cap,.slice r.1.2.1.a x.l.bE.length r.1.2.1.cap,.slice r.1.2.2.1.a x.l.Sections.length r.1.2.2.1.cap,.slice r.1.2.2.2.a x.l.Links.length r.1.2.2.2.cap,.slice r.2.1.a x.tracks.length r.2.1.cap,.slice r.2.2.1.a x.between.length r.2.2.1.cap,.slice r.2.2.2.a x.jU.length r.2.2.2.cap]
 ok:=fun S w r x=>ah.ok S w r.1 x.l∧ah.ok S w r.2.1 x.tracks∧ah.ok S w r.2.2.1 x.between∧ah.ok S w r.2.2.2 x.jU
 npos:=by decide
 bpos:=by decide
 len:=fun _ _=>rfl
 one:=fun r x v hv=>by
  have h:[.slice r.1.1.a x.l.aT.length r.1.1.cap,.slice r.1.2.1.a x.l.bE.length r.1.2.1.cap,.slice r.1.2.2.1.a x.l.Sections.length r.1.2.2.1.cap,.slice r.1.2.2.2.a x.l.Links.length r.1.2.2.2.cap,.slice r.2.1.a x.tracks.length r.2.1.cap,.slice r.2.2.1.a x.between.length r.2.2.1.cap,.slice r.2.2.2.a x.jU.length r.2.2.2.cap].all Value.oneCell'=true:=rfl
  exact List.all_eq_true.1 h v hv
 mono:=fun S S' w r x hs ⟨h0,h1,h2,h3⟩=>⟨ah.mono S S' w _ _ hs h0,ah.mono S S' w _ _ hs h1,ah.mono S S' w _ _ hs h2,ah.mono S S' w _ _ hs h3⟩
 dep:=fun S w w' r x hs ⟨h0,h1,h2,h3⟩=>⟨ah.dep S w w' _ _ hs h0,ah.dep S w w' _ _ hs h1,ah.dep S w w' _ _ hs h2,ah.dep S w w' _ _ hs h3⟩
structure aQ where
 Name:Str
 Length:Int
 qV:Int
 qQ:Int
 qR:Int
 deriving DecidableEq,Inhabited
instance:ah aQ where
 R:=Unit
 n:=5
 bytes:=48
 enc:=fun r x=>[.string x.Name.ba,.int .i64 x.Length,.int .i64 x.qV,.int .i64 x.qQ,.int .i64 x.qR]
 ok:=fun S w r x=>True
 npos:=by decide
 bpos:=by decide
 len:=fun _ _=>rfl
 one:=fun r x v hv=>by
  have h:[.string x.Name.ba,.int .i64 x.Length,.int .i64 x.qV,.int .i64 x.qQ,.int .i64 x.qR].all Value.oneCell'=true:=rfl
  exact List.all_eq_true.1 h v hv
 mono:=fun _ _ _ _ _ _ h=>h
 dep:=fun _ _ _ _ _ _ h=>h
theorem amc(x y:aQ):decide (x=y)=true↔([.string x.Name.ba,.int .i64 x.Length,.int .i64 x.qV,.int .i64 x.qQ,.int .i64 x.qR]:List Value)=[.string y.Name.ba,.int .i64 y.Length,.int .i64 y.qV,.int .i64 y.qQ,.int .i64 y.qR]:=by
 constructor
 ·intro h;rw[of_decide_eq_true h]
 ·intro h
  obtain⟨a_1,a_2,Rk,XA,a_5⟩:=x
  obtain⟨b_1,Il,Rq,XJ,b_5⟩:=y
  simp only[List.cons.injEq,Value.int.injEq,Value.bool.injEq,Value.string.injEq,Str.F4,true_and,and_true] at h
  simp only[decide_eq_true_eq,aQ.mk.injEq]
  simp_all
structure uY where
 cells:List Cell
 first:Int
 deriving DecidableEq,Inhabited
instance:ah uY where
 R:=(ah.R (List Cell))
 n:=2
 bytes:=32
 enc:=fun r x=>[.slice r.a x.cells.length r.cap,.int .i64 x.first]
 ok:=fun S w r x=>ah.ok S w r x.cells
 npos:=by decide
 bpos:=by decide
 len:=fun _ _=>rfl
 one:=fun r x v hv=>by
  have h:[.slice r.a x.cells.length r.cap,.int .i64 x.first].all Value.oneCell'=true:=rfl
  exact List.all_eq_true.1 h v hv
 mono:=fun S S' w r x hs h=>ah.mono S S' w _ _ hs h
 dep:=fun S w w' r x hs h=>ah.dep S w w' _ _ hs h
structure bW where
 aG:Int
 Extra:Int
 Min:Int
 Max:Int
 deriving DecidableEq,Inhabited
instance:ah bW where
 R:=Unit
 n:=4
 bytes:=32
 enc:=fun r x=>[.int .i64 x.aG,.int .i64 x.Extra,.int .i64 x.Min,.int .i64 x.Max]
 ok:=fun S w r x=>True
 npos:=by decide
 bpos:=by decide
 len:=fun _ _=>rfl
 one:=fun r x v hv=>by
  have h:[.int .i64 x.aG,.int .i64 x.Extra,.int .i64 x.Min,.int .i64 x.Max].all Value.oneCell'=true:=rfl
  exact List.all_eq_true.1 h v hv
 mono:=fun _ _ _ _ _ _ h=>h
 dep:=fun _ _ _ _ _ _ h=>h
theorem amb(x y:bW):decide (x=y)=true↔([.int .i64 x.aG,.int .i64 x.Extra,.int .i64 x.Min,.int .i64 x.Max]:List Value)=[.int .i64 y.aG,.int .i64 y.Extra,.int .i64 y.Min,.int .i64 y.Max]:=by
 constructor
 ·intro h;rw[of_decide_eq_true h]
 ·intro h
  obtain⟨a_1,a_2,Rk,XA⟩:=x
  obtain⟨b_1,Il,Rq,XJ⟩:=y
  simp only[List.cons.injEq,Value.int.injEq,Value.bool.injEq,Value.string.injEq,Str.F4,true_and,and_true] at h
  simp only[decide_eq_true_eq,bW.mk.injEq]
  simp_all
structure Line where
 Name:Str
 aQ:Int
 Weight:Int
 bD:List bW
 deriving DecidableEq,Inhabited
instance:ah Line where
 R:=(ah.R (List bW))
 n:=4
 bytes:=56
 enc:=fun r x=>[.string x.Name.ba,.int .i64 x.aQ,.int .i64 x.Weight,.slice r.a x.bD.length r.cap]
 ok:=fun S w r x=>ah.ok S w r x.bD
 npos:=by decide
 bpos:=by decide
 len:=fun _ _=>rfl
 one:=fun r x v hv=>by
  have h:[.string x.Name.ba,.int .i64 x.aQ,.int .i64 x.Weight,.slice r.a x.bD.length r.cap].all Value.oneCell'=true:=rfl
  exact List.all_eq_true.1 h v hv
 mono:=fun S S' w r x hs h=>ah.mono S S' w _ _ hs h
 dep:=fun S w w' r x hs h=>ah.dep S w w' _ _ hs h
instance:Inner Line bW where
 get:=fun x=>x.bD
 rep:=fun r=>r
 okI:=fun _ _ _ _ h=>h
structure Change where
 fV:Int
 iy:Int
 iG:Int
 kQ:Int
 Min:Int
 Max:Int
 Weight:Int
 deriving DecidableEq,Inhabited
instance:ah Change where
 R:=Unit
 n:=7
 bytes:=56
 enc:=fun r x=>[.int .i64 x.fV,.int .i64 x.iy,.int .i64 x.iG,.int .i64 x.kQ,.int .i64 x.Min,.int .i64 x.Max,.int .i64 x.Weight]
 ok:=fun S w r x=>True
 npos:=by decide
 bpos:=by decide
 len:=fun _ _=>rfl
 one:=fun r x v hv=>by
  have h:[.int .i64 x.fV,.int .i64 x.iy,.int .i64 x.iG,.int .i64 x.kQ,.int .i64 x.Min,.int .i64 x.Max,.int .i64 x.Weight].all Value.oneCell'=true:=rfl
  exact List.all_eq_true.1 h v hv
 mono:=fun _ _ _ _ _ _ h=>h
 dep:=fun _ _ _ _ _ _ h=>h
theorem alN(x y:Change):decide (x=y)=true↔([.int .i64 x.fV,.int .i64 x.iy,.int .i64 x.iG,.int .i64 x.kQ,.int .i64 x.Min,.int .i64 x.Max,.int .i64 x.Weight]:List Value)=[.int .i64 y.fV,.int .i64 y.iy,.int .i64 y.iG,.int .i64 y.kQ,.int .i64 y.Min,.int .i64 y.Max,.int .i64 y.Weight]:=by
 constructor
 ·intro h;rw[of_decide_eq_true h]
 ·intro h
  obtain⟨a_1,a_2,Rk,XA,a_5,a_6,a_7⟩:=x
  obtain⟨b_1,Il,Rq,XJ,b_5,b_6,b_7⟩:=y
  simp only[List.cons.injEq,Value.int.injEq,Value.bool.injEq,Value.string.injEq,Str.F4,true_and,and_true] at h
  simp only[decide_eq_true_eq,Change.mk.injEq]
  simp_all
structure Turn where
 From:Int
 To:Int
 Min:Int
 Max:Int
 deriving DecidableEq,Inhabited
instance:ah Turn where
 R:=Unit
 n:=4
 bytes:=32
 enc:=fun r x=>[.int .i64 x.From,.int .i64 x.To,.int .i64 x.Min,.int .i64 x.Max]
 ok:=fun S w r x=>True
 npos:=by decide
 bpos:=by decide
 len:=fun _ _=>rfl
 one:=fun r x v hv=>by
  have h:[.int .i64 x.From,.int .i64 x.To,.int .i64 x.Min,.int .i64 x.Max].all Value.oneCell'=true:=rfl
  exact List.all_eq_true.1 h v hv
 mono:=fun _ _ _ _ _ _ h=>h
 dep:=fun _ _ _ _ _ _ h=>h
theorem ame(x y:Turn):decide (x=y)=true↔([.int .i64 x.From,.int .i64 x.To,.int .i64 x.Min,.int .i64 x.Max]:List Value)=[.int .i64 y.From,.int .i64 y.To,.int .i64 y.Min,.int .i64 y.Max]:=by
 constructor
 ·intro h;rw[of_decide_eq_true h]
 ·intro h
  obtain⟨a_1,a_2,Rk,XA⟩:=x
  obtain⟨b_1,Il,Rq,XJ⟩:=y
  simp only[List.cons.injEq,Value.int.injEq,Value.bool.injEq,Value.string.injEq,Str.F4,true_and,and_true] at h
  simp only[decide_eq_true_eq,Turn.mk.injEq]
  simp_all
structure Sync where
 mE:Int
 lJ:Int
 mM:Int
 lV:Int
 Offset:Int
 deriving DecidableEq,Inhabited
instance:ah Sync where
 R:=Unit
 n:=5
 bytes:=40
 enc:=fun r x=>[.int .i64 x.mE,.int .i64 x.lJ,.int .i64 x.mM,.int .i64 x.lV,.int .i64 x.Offset]
 ok:=fun S w r x=>True
 npos:=by decide
 bpos:=by decide
 len:=fun _ _=>rfl
 one:=fun r x v hv=>by
  have h:[.int .i64 x.mE,.int .i64 x.lJ,.int .i64 x.mM,.int .i64 x.lV,.int .i64 x.Offset].all Value.oneCell'=true:=rfl
  exact List.all_eq_true.1 h v hv
 mono:=fun _ _ _ _ _ _ h=>h
 dep:=fun _ _ _ _ _ _ h=>h
theorem amd(x y:Sync):decide (x=y)=true↔([.int .i64 x.mE,.int .i64 x.lJ,.int .i64 x.mM,.int .i64 x.lV,.int .i64 x.Offset]:List Value)=[.int .i64 y.mE,.int .i64 y.lJ,.int .i64 y.mM,.int .i64 y.lV,.int .i64 y.Offset]:=by
 constructor
 ·intro h;rw[of_decide_eq_true h]
 ·intro h
  obtain⟨a_1,a_2,Rk,XA,a_5⟩:=x
  obtain⟨b_1,Il,Rq,XJ,b_5⟩:=y
  simp only[List.cons.injEq,Value.int.injEq,Value.bool.injEq,Value.string.injEq,Str.F4,true_and,and_true] at h
  simp only[decide_eq_true_eq,Sync.mk.injEq]
  simp_all
structure bZ where
 From:Int
 To:Int
 Weight:Int
 deriving DecidableEq,Inhabited
instance:ah bZ where
 R:=Unit
 n:=3
 bytes:=24
 enc:=fun r x=>[.int .i64 x.From,.int .i64 x.To,.int .i64 x.Weight]
 ok:=fun S w r x=>True
 npos:=by decide
 bpos:=by decide
 len:=fun _ _=>rfl
 one:=fun r x v hv=>by
  have h:[.int .i64 x.From,.int .i64 x.To,.int .i64 x.Weight].all Value.oneCell'=true:=rfl
  exact List.all_eq_true.1 h v hv
 mono:=fun _ _ _ _ _ _ h=>h
 dep:=fun _ _ _ _ _ _ h=>h
theorem alP(x y:bZ):decide (x=y)=true↔([.int .i64 x.From,.int .i64 x.To,.int .i64 x.Weight]:List Value)=[.int .i64 y.From,.int .i64 y.To,.int .i64 y.Weight]:=by
 constructor
 ·intro h;rw[of_decide_eq_true h]
 ·intro h
  obtain⟨a_1,a_2,Rk⟩:=x
  obtain⟨b_1,Il,Rq⟩:=y
  simp only[List.cons.injEq,Value.int.injEq,Value.bool.injEq,Value.string.injEq,Str.F4,true_and,and_true] at h
  simp only[decide_eq_true_eq,bZ.mk.injEq]
  simp_all
structure Plan where
 bJ:Int
 aP:List aQ
 Routes:List aG
 Lines:List Line
 Changes:List Change
 Turns:List Turn
 bB:List Sync
 bA:List bZ
 deriving DecidableEq,Inhabited
instance:ah Plan where
 R:=(ah.R (List aQ))×(ah.R (List aG))×(ah.R (List Line))×(ah.R (List Change))×(ah.R (List Turn))×(ah.R (List Sync))×(ah.R (List bZ))
 n:=8
 bytes:=176
 enc:=fun r x=>[.int .i64 x.bJ,.slice r.1.a x.aP.length r.1.cap,.slice r.2.1.a x.Routes.length r.2.1.cap,.slice r.2.2.1.a x.Lines.length r.2.2.1.cap,.slice r.2.2.2.1.a x.Changes.length r.2.2.2.1.cap,.slice r.2.2.2.2.1.a x.Turns.length r.2.2.2.2.1.cap,.slice r.2.2.2.2.2.1.a x.bB.length r.2.2.2.2.2.1.cap,.slice r.2.2.2.2.2.2.a x.bA.length r.2.2.2.2.2.2.cap]
 ok:=fun S w r x=>ah.ok S w r.1 x.aP∧ah.ok S w r.2.1 x.Routes∧ah.ok S w r.2.2.1 x.Lines∧ah.ok S w r.2.2.2.1 x.Changes∧ah.ok S w r.2.2.2.2.1 x.Turns∧ah.ok S w r.2.2.2.2.2.1 x.bB∧ah.ok S w r.2.2.2.2.2.2 x.bA
 npos:=by decide
 bpos:=by decide
 len:=fun _ _=>rfl
 one:=fun r x v hv=>by
  have h:[.int .i64 x.bJ,.slice r.1.a x.aP.length r.1.cap,.slice r.2.1.a x.Routes.length r.2.1.cap,.slice r.2.2.1.a x.Lines.length r.2.2.1.cap,.slice r.2.2.2.1.a x.Changes.length r.2.2.2.1.cap,.slice r.2.2.2.2.1.a x.Turns.length r.2.2.2.2.1.cap,.slice r.2.2.2.2.2.1.a x.bB.length r.2.2.2.2.2.1.cap,.slice r.2.2.2.2.2.2.a x.bA.length r.2.2.2.2.2.2.cap].all Value.oneCell'=true:=rfl
  exact List.all_eq_true.1 h v hv
 mono:=fun S S' w r x hs ⟨h0,h1,h2,h3,h4,h5,h6⟩=>⟨ah.mono S S' w _ _ hs h0,ah.mono S S' w _ _ hs h1,ah.mono S S' w _ _ hs h2,ah.mono S S' w _ _ hs h3,ah.mono S S' w _ _ hs h4,ah.mono S S' w _ _ hs h5,ah.mono S S' w _ _ hs h6⟩
 dep:=fun S w w' r x hs ⟨h0,h1,h2,h3,h4,h5,h6⟩=>⟨ah.dep S w w' _ _ hs h0,ah.dep S w w' _ _ hs h1,ah.dep S w w' _ _ hs h2,ah.dep S w w' _ _ hs h3,ah.dep S w w' _ _ hs h4,ah.dep S w w' _ _ hs h5,ah.dep S w w' _ _ hs h6⟩
instance:ah Any where
 R:=Unit
 n:=1
 bytes:=16
 enc:=fun _ x=>[ami 9 3 x]
 ok:=fun _ _ _ _=>True
 npos:=Nat.one_pos
 bpos:=by omega
 len:=fun _ _=>rfl
 one:=fun _ x v hv=>by simp at hv;subst hv;cases x<;>rfl
 mono:=fun _ _ _ _ _ _ h=>h
 dep:=fun _ _ _ _ _ _ h=>h
structure agr where
 lines:List (List Str)
 deriving DecidableEq,Inhabited
instance:ah agr where
 R:=(ah.R (List (List Str)))
 n:=1
 bytes:=24
 enc:=fun r x=>[.slice r.a x.lines.length r.cap]
 ok:=fun S w r x=>ah.ok S w r x.lines
 npos:=by decide
 bpos:=by decide
 len:=fun _ _=>rfl
 one:=fun r x v hv=>by
  have h:[.slice r.a x.lines.length r.cap].all Value.oneCell'=true:=rfl
  exact List.all_eq_true.1 h v hv
 mono:=fun S S' w r x hs h=>ah.mono S S' w _ _ hs h
 dep:=fun S w w' r x hs h=>ah.dep S w w' _ _ hs h
structure bK where
 l:Layout
 p:Plan
 period:Bool
 w:List Str
 e:Int
 deriving DecidableEq,Inhabited
instance:ah bK where
 R:=(ah.R Layout)×(ah.R Plan)×(ah.R (List Str))
 n:=15
 bytes:=312
 enc:=fun r x=>[.slice r.1.1.a x.l.aT.length r.1.1.cap,.slice r.1.2.1.a x.l.bE.length r.1.2.1.cap,.slice r.1.2.2.1.a x.l.Sections.length r.1.2.2.1.cap,.slice r.1.2.2.2.a x.l.Links.length r.1.2.2.2.cap,.int .i64 x.p.bJ,.slice r.2.1.1.a x.p.aP.length r.2.1.1.cap,.slice r.2.1.2.1.a x.p.Routes.length r.2.1.2.1.cap,.slice r.2.1.2.2.1.a x.p.Lines.length r.2.1.2.2.1.cap,.slice r.2.1.2.2.2.1.a x.p.Changes.length r.2.1.2.2.2.1.cap,.slice r.2.1.2.2.2.2.1.a x.p.Turns.length r.2.1.2.2.2.2.1.cap,.slice r.2.1.2.2.2.2.2.1.a x.p.bB.length r.2.1.2.2.2.2.2.1.cap,.slice r.2.1.2.2.2.2.2.2.a x.p.bA.length r.2.1.2.2.2.2.2.2.cap,.bool x.period,.slice r.2.2.a x.w.length r.2.2.cap,.int .i64 x.e]
 ok:=fun S w r x=>ah.ok S w r.1 x.l∧ah.ok S w r.2.1 x.p∧ah.ok S w r.2.2 x.w
 npos:=by decide
 bpos:=by decide
 len:=fun _ _=>rfl
 one:=fun r x v hv=>by
  have h:[.slice r.1.1.a x.l.aT.length r.1.1.cap,.slice r.1.2.1.a x.l.bE.length r.1.2.1.cap,.slice r.1.2.2.1.a x.l.Sections.length r.1.2.2.1.cap,.slice r.1.2.2.2.a x.l.Links.length r.1.2.2.2.cap,.int .i64 x.p.bJ,.slice r.2.1.1.a x.p.aP.length r.2.1.1.cap,.slice r.2.1.2.1.a x.p.Routes.length r.2.1.2.1.cap,.slice r.2.1.2.2.1.a x.p.Lines.length r.2.1.2.2.1.cap,.slice r.2.1.2.2.2.1.a x.p.Changes.length r.2.1.2.2.2.1.cap,.slice r.2.1.2.2.2.2.1.a x.p.Turns.length r.2.1.2.2.2.2.1.cap,.slice r.2.1.2.2.2.2.2.1.a x.p.bB.length r.2.1.2.2.2.2.2.1.cap,.slice r.2.1.2.2.2.2.2.2.a x.p.bA.length r.2.1.2.2.2.2.2.2.cap,.bool x.period,.slice r.2.2.a x.w.length r.2.2.cap,.int .i64 x.e].all Value.oneCell'=true:=rfl
  exact List.all_eq_true.1 h v hv
 mono:=fun S S' w r x hs ⟨h0,h1,h2⟩=>⟨ah.mono S S' w _ _ hs h0,ah.mono S S' w _ _ hs h1,ah.mono S S' w _ _ hs h2⟩
 dep:=fun S w w' r x hs ⟨h0,h1,h2⟩=>⟨ah.dep S w w' _ _ hs h0,ah.dep S w w' _ _ hs h1,ah.dep S w w' _ _ hs h2⟩
structure Hop where
 To:Step
 Point:Int
 Pos:Int
 deriving DecidableEq,Inhabited
instance:ah Hop where
 R:=Unit
 n:=4
 bytes:=32
 enc:=fun r x=>[.int .i64 x.To.Section,.int .i64 x.To.Dir,.int .i64 x.Point,.int .i64 x.Pos]
 ok:=fun S w r x=>True
 npos:=by decide
 bpos:=by decide
 len:=fun _ _=>rfl
 one:=fun r x v hv=>by
  have h:[.int .i64 x.To.Section,.int .i64 x.To.Dir,.int .i64 x.Point,.int .i64 x.Pos].all Value.oneCell'=true:=rfl
  exact List.all_eq_true.1 h v hv
 mono:=fun _ _ _ _ _ _ h=>h
 dep:=fun _ _ _ _ _ _ h=>h
structure iN where
 l:Layout
 p:Plan
 periods:Int
 deriving DecidableEq,Inhabited
instance:ah iN where
 R:=(ah.R Layout)×(ah.R Plan)
 n:=13
 bytes:=280
 enc:=fun r x=>[.slice r.1.1.a x.l.aT.length r.1.1.cap,.slice r.1.2.1.a x.l.bE.length r.1.2.1.cap,.slice r.1.2.2.1.a x.l.Sections.length r.1.2.2.1.cap,.slice r.1.2.2.2.a x.l.Links.length r.1.2.2.2.cap,.int .i64 x.p.bJ,.slice r.2.1.a x.p.aP.length r.2.1.cap,.slice r.2.2.1.a x.p.Routes.length r.2.2.1.cap,.slice r.2.2.2.1.a x.p.Lines.length r.2.2.2.1.cap,.slice r.2.2.2.2.1.a x.p.Changes.length r.2.2.2.2.1.cap,.slice r.2.2.2.2.2.1.a x.p.Turns.length r.2.2.2.2.2.1.cap,.slice r.2.2.2.2.2.2.1.a x.p.bB.length r.2.2.2.2.2.2.1.cap,.slice r.2.2.2.2.2.2.2.a x.p.bA.length r.2.2.2.2.2.2.2.cap,.int .i64 x.periods]
 ok:=fun S w r x=>ah.ok S w r.1 x.l∧ah.ok S w r.2 x.p
 npos:=by decide
 bpos:=by decide
 len:=fun _ _=>rfl
 one:=fun r x v hv=>by
  have h:[.slice r.1.1.a x.l.aT.length r.1.1.cap,.slice r.1.2.1.a x.l.bE.length r.1.2.1.cap,.slice r.1.2.2.1.a x.l.Sections.length r.1.2.2.1.cap,.slice r.1.2.2.2.a x.l.Links.length r.1.2.2.2.cap,.int .i64 x.p.bJ,.slice r.2.1.a x.p.aP.length r.2.1.cap,.slice r.2.2.1.a x.p.Routes.length r.2.2.1.cap,.slice r.2.2.2.1.a x.p.Lines.length r.2.2.2.1.cap,.slice r.2.2.2.2.1.a x.p.Changes.length r.2.2.2.2.1.cap,.slice r.2.2.2.2.2.1.a x.p.Turns.length r.2.2.2.2.2.1.cap,.slice r.2.2.2.2.2.2.1.a x.p.bB.length r.2.2.2.2.2.2.1.cap,.slice r.2.2.2.2.2.2.2.a x.p.bA.length r.2.2.2.2.2.2.2.cap,.int .i64 x.periods].all Value.oneCell'=true:=rfl
  exact List.all_eq_true.1 h v hv
 mono:=fun S S' w r x hs ⟨h0,h1⟩=>⟨ah.mono S S' w _ _ hs h0,ah.mono S S' w _ _ hs h1⟩
 dep:=fun S w w' r x hs ⟨h0,h1⟩=>⟨ah.dep S w w' _ _ hs h0,ah.dep S w w' _ _ hs h1⟩
abbrev Gy:SR (ah.R Cell):=⟨none,0,(fun _=>())⟩
abbrev wT:SR (ah.R Change):=⟨none,0,(fun _=>())⟩
abbrev tO:SR (ah.R bZ):=⟨none,0,(fun _=>())⟩
abbrev as6:SR (ah.R Hop):=⟨none,0,(fun _=>())⟩
abbrev zV:SR (ah.R Int):=⟨none,0,(fun _=>())⟩
abbrev qM:SR (ah.R Line):=⟨none,0,(fun _=>(⟨none,0,(fun _=>())⟩:SR (ah.R bW)))⟩
abbrev Jd:SR (ah.R Link):=⟨none,0,(fun _=>())⟩
abbrev qN:SR (ah.R (List Int)):=⟨none,0,(fun _=>(⟨none,0,(fun _=>())⟩:SR (ah.R Int)))⟩
abbrev aeg:SR (ah.R (List Word)):=⟨none,0,(fun _=>(⟨none,0,(fun _=>())⟩:SR (ah.R Word)))⟩
abbrev l7:SR (ah.R bW):=⟨none,0,(fun _=>())⟩
abbrev yS:SR (ah.R aG):=⟨none,0,(fun _=>(⟨none,0,(fun _=>())⟩:SR (ah.R Step)))⟩
abbrev Ma:SR (ah.R Section):=⟨none,0,(fun _=>())⟩
abbrev uF:SR (ah.R Step):=⟨none,0,(fun _=>())⟩
abbrev zW:SR (ah.R aQ):=⟨none,0,(fun _=>())⟩
abbrev uG:SR (ah.R Str):=⟨none,0,(fun _=>())⟩
abbrev sJ:SR (ah.R Sync):=⟨none,0,(fun _=>())⟩
abbrev xV:SR (ah.R Turn):=⟨none,0,(fun _=>())⟩
abbrev Je:SR (ah.R Word):=⟨none,0,(fun _=>())⟩
abbrev Eb(x:Section):List Value:=[.string x.Name.ba,vI x.Length,vI x.Limit,vI x.jM,vI x.nH]
abbrev Xz(x:Section):Array Value:=(Eb x).toArray
abbrev yU(x:Link):List Value:=[vI x.A,vI x.dD,vI x.B,vI x.dN,vI x.Point,vI x.Pos]
abbrev amg(x:Link):Array Value:=(yU x).toArray
abbrev iR(x:Layout)(r:ah.R Layout):List Value:=[sL r.1 x.aT,sL r.2.1 x.bE,sL r.2.2.1 x.Sections,sL r.2.2.2 x.Links]
abbrev jy(x:Layout)(r:ah.R Layout):Array Value:=(iR x r).toArray
abbrev aiA(x:Word):List Value:=[.string x.Text.ba,vI x.Line,vI x.Col]
abbrev aeo(x:oW):List Value:=[vI x.sP,vI x.end_]
abbrev agu(x:oW):Array Value:=(aeo x).toArray
abbrev qd(x:Step):List Value:=[vI x.Section,vI x.Dir]
abbrev FU(x:Step):Array Value:=(qd x).toArray
abbrev jO(x:lW):List Value:=[vI x.sP,vI x.side]
abbrev amh(x:lW):Array Value:=(jO x).toArray
abbrev nV(x:aG)(r:ah.R aG):List Value:=[sL r x.Steps,vI x.Overlap]
abbrev xC(x:aG)(r:ah.R aG):Array Value:=(nV x r).toArray
abbrev D8(x:bN)(r:ah.R bN):List Value:=[sL r x.l,vI x.i]
abbrev Ea(x:dB)(r:ah.R dB):List Value:=[sL r.1.1 x.l.aT,sL r.1.2.1 x.l.bE,sL r.1.2.2.1 x.l.Sections,sL r.1.2.2.2 x.l.Links,sL r.2.1 x.tracks,sL r.2.2.1 x.between,sL r.2.2.2 x.jU]
abbrev rD(x:aQ):List Value:=[.string x.Name.ba,vI x.Length,vI x.qV,vI x.qQ,vI x.qR]
abbrev FV(x:aQ):Array Value:=(rD x).toArray
abbrev aiz(x:uY)(r:ah.R uY):List Value:=[sL r x.cells,vI x.first]
abbrev abL(x:uY)(r:ah.R uY):Array Value:=(aiz x r).toArray
abbrev zY(x:bW):List Value:=[vI x.aG,vI x.Extra,vI x.Min,vI x.Max]
abbrev agv(x:bW):Array Value:=(zY x).toArray
abbrev mH(x:Line)(r:ah.R Line):List Value:=[.string x.Name.ba,vI x.aQ,vI x.Weight,sL r x.bD]
abbrev KF(x:Line)(r:ah.R Line):Array Value:=(mH x r).toArray
abbrev GD(x:Change):List Value:=[vI x.fV,vI x.iy,vI x.iG,vI x.kQ,vI x.Min,vI x.Max,vI x.Weight]
abbrev amf(x:Change):Array Value:=(GD x).toArray
abbrev zZ(x:Turn):List Value:=[vI x.From,vI x.To,vI x.Min,vI x.Max]
abbrev agw(x:Turn):Array Value:=(zZ x).toArray
abbrev Jh(x:Sync):List Value:=[vI x.mE,vI x.lJ,vI x.mM,vI x.lV,vI x.Offset]
abbrev Jg(x:bZ):List Value:=[vI x.From,vI x.To,vI x.Weight]
abbrev kX(x:Plan)(r:ah.R Plan):List Value:=[vI x.bJ,sL r.1 x.aP,sL r.2.1 x.Routes,sL r.2.2.1 x.Lines,sL r.2.2.2.1 x.Changes,sL r.2.2.2.2.1 x.Turns,sL r.2.2.2.2.2.1 x.bB,sL r.2.2.2.2.2.2 x.bA]
abbrev jI(x:Plan)(r:ah.R Plan):Array Value:=(kX x r).toArray
abbrev ni(x:bK)(r:ah.R bK):List Value:=[sL r.1.1 x.l.aT,sL r.1.2.1 x.l.bE,sL r.1.2.2.1 x.l.Sections,sL r.1.2.2.2 x.l.Links,vI x.p.bJ,sL r.2.1.1 x.p.aP,sL r.2.1.2.1 x.p.Routes,sL r.2.1.2.2.1 x.p.Lines,sL r.2.1.2.2.2.1 x.p.Changes,sL r.2.1.2.2.2.2.1 x.p.Turns,sL r.2.1.2.2.2.2.2.1 x.p.bB,sL r.2.1.2.2.2.2.2.2 x.p.bA,.bool x.period,sL r.2.2 x.w,vI x.e]
abbrev Us(x:Hop):List Value:=[vI x.To.Section,vI x.To.Dir,vI x.Point,vI x.Pos]
abbrev Rj(x:Hop):Array Value:=(Us x).toArray
abbrev vH(x:iN)(r:ah.R iN):List Value:=[sL r.1.1 x.l.aT,sL r.1.2.1 x.l.bE,sL r.1.2.2.1 x.l.Sections,sL r.1.2.2.2 x.l.Links,vI x.p.bJ,sL r.2.1 x.p.aP,sL r.2.2.1 x.p.Routes,sL r.2.2.2.1 x.p.Lines,sL r.2.2.2.2.1 x.p.Changes,sL r.2.2.2.2.2.1 x.p.Turns,sL r.2.2.2.2.2.2.1 x.p.bB,sL r.2.2.2.2.2.2.2 x.p.bA,vI x.periods]
end Go.Proofs.YtcalibhfgdncaaaGreatDoor
namespace Go.Dc
open Go.Proofs.YtcalibhfgdncaaaGreatDoor Go.RowKit
theorem Mem.je{S:aW}{w:World}{cs H:List Chunk}{r:ah.R Layout}{x:Layout}(hm:Mem (rJ w S cs) H w)(h:ah.ok S w r x):Mem (rJ w S cs) (dw (α:=List Link) r.2.2.2 x.Links::dw (α:=List Section) r.2.2.1 x.Sections::dw (α:=List Str) r.2.1 x.bE::dw (α:=List Str) r.1 x.aT::H) w:=
 hm |>.bG (α:=List Str) (r:=r.1) (x:=x.aT) h.1 |>.bG (α:=List Str) (r:=r.2.1) (x:=x.bE) h.2.1 |>.bG (α:=List Section) (r:=r.2.2.1) (x:=x.Sections) h.2.2.1 |>.bG (α:=List Link) (r:=r.2.2.2) (x:=x.Links) h.2.2.2
theorem Mem.jZ{S:aW}{w:World}{cs H:List Chunk}{r:ah.R Plan}{x:Plan}(hm:Mem (rJ w S cs) H w)(h:ah.ok S w r x):Mem (rJ w S cs) (dw (α:=List bZ) r.2.2.2.2.2.2 x.bA::dw (α:=List Sync) r.2.2.2.2.2.1 x.bB::dw (α:=List Turn) r.2.2.2.2.1 x.Turns::dw (α:=List Change) r.2.2.2.1 x.Changes::dw (α:=List Line) r.2.2.1 x.Lines::dw (α:=List aG) r.2.1 x.Routes::dw (α:=List aQ) r.1 x.aP::H) w:=
 hm |>.bG (α:=List aQ) (r:=r.1) (x:=x.aP) h.1 |>.bG (α:=List aG) (r:=r.2.1) (x:=x.Routes) h.2.1 |>.bG (α:=List Line) (r:=r.2.2.1) (x:=x.Lines) h.2.2.1 |>.bG (α:=List Change) (r:=r.2.2.2.1) (x:=x.Changes) h.2.2.2.1 |>.bG (α:=List Turn) (r:=r.2.2.2.2.1) (x:=x.Turns) h.2.2.2.2.1 |>.bG (α:=List Sync) (r:=r.2.2.2.2.2.1) (x:=x.bB) h.2.2.2.2.2.1 |>.bG (α:=List bZ) (r:=r.2.2.2.2.2.2) (x:=x.bA) h.2.2.2.2.2.2
end Go.Dc

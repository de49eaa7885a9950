/- The program's types as plain data. -/
import Derived.Test.YtcalibhfgdncaaaGreatDoorChecked
import Derived.Test.YtcalibhfgdncaaaGreatDoorDn
set_option linter.all false
namespace Go.Proofs.YtcalibhfgdncaaaGreatDoor
open Go.Dc Go.RowKit
set_option maxRecDepth 10000
structure Section where
 Name:Str
 Length:Int
 Limit:Int
 lJ:Int
 pQ:Int
 deriving DecidableEq,Inhabited
instance:ak Section where
 R:=Unit
 n:=5
 bytes:=48
 enc:=fun r x=>[.string x.Name.ba,.int .i64 x.Length,.int .i64 x.Limit,.int .i64 x.lJ,.int .i64 x.pQ]
 ok:=fun S w r x=>True
 npos:=by decide
 bpos:=by decide
 len:=fun _ _=>rfl
 one:=fun r x v hv=>by
  have h:[.string x.Name.ba,.int .i64 x.Length,.int .i64 x.Limit,.int .i64 x.lJ,.int .i64 x.pQ].all Value.oneCell'=true:=rfl
  exact List.all_eq_true.1 h v hv
 mono:=fun _ _ _ _ _ _ h=>h
 dep:=fun _ _ _ _ _ _ h=>h
structure Link where
 A:Int
 lg:Int
 B:Int
 lu:Int
 Point:Int
 Pos:Int
 deriving DecidableEq,Inhabited
instance:ak Link where
 R:=Unit
 n:=6
 bytes:=48
 enc:=fun r x=>[.int .i64 x.A,.int .i64 x.lg,.int .i64 x.B,.int .i64 x.lu,.int .i64 x.Point,.int .i64 x.Pos]
 ok:=fun S w r x=>True
 npos:=by decide
 bpos:=by decide
 len:=fun _ _=>rfl
 one:=fun r x v hv=>by
  have h:[.int .i64 x.A,.int .i64 x.lg,.int .i64 x.B,.int .i64 x.lu,.int .i64 x.Point,.int .i64 x.Pos].all Value.oneCell'=true:=rfl
  exact List.all_eq_true.1 h v hv
 mono:=fun _ _ _ _ _ _ h=>h
 dep:=fun _ _ _ _ _ _ h=>h
structure Layout where
 aM:List Str
 aV:List Str
 Sections:List Section
 Links:List Link
 deriving DecidableEq,Inhabited
instance:ak Layout where
 R:=(ak.R (List Str))×(ak.R (List Str))×(ak.R (List Section))×(ak.R (List Link))
 n:=4
 bytes:=96
 enc:=fun r x=>[.slice r.1.a x.aM.length r.1.cap,.slice r.2.1.a x.aV.length r.2.1.cap,.slice r.2.2.1.a x.Sections.length r.2.2.1.cap,.slice r.2.2.2.a x.Links.length r.2.2.2.cap]
 ok:=fun S w r x=>ak.ok S w r.1 x.aM∧ak.ok S w r.2.1 x.aV∧ak.ok S w r.2.2.1 x.Sections∧ak.ok S w r.2.2.2 x.Links
 npos:=by decide
 bpos:=by decide
 len:=fun _ _=>rfl
 one:=fun r x v hv=>by
  have h:[.slice r.1.a x.aM.length r.1.cap,.slice r.2.1.a x.aV.length r.2.1.cap,.slice r.2.2.1.a x.Sections.length r.2.2.1.cap,.slice r.2.2.2.a x.Links.length r.2.2.2.cap].all Value.oneCell'=true:=rfl
  exact List.all_eq_true.1 h v hv
 mono:=fun S S' w r x hs ⟨h0,h1,h2,h3⟩=>⟨ak.mono S S' w _ _ hs h0,ak.mono S S' w _ _ hs h1,ak.mono S S' w _ _ hs h2,ak.mono S S' w _ _ hs h3⟩
 dep:=fun S w w' r x hs ⟨h0,h1,h2,h3⟩=>⟨ak.dep S w w' _ _ hs h0,ak.dep S w w' _ _ hs h1,ak.dep S w w' _ _ hs h2,ak.dep S w w' _ _ hs h3⟩
structure Word where
 Text:Str
 Line:Int
 Col:Int
 deriving DecidableEq,Inhabited
instance:ak Word where
 R:=Unit
 n:=3
 bytes:=32
 enc:=fun r x=>[.string x.Text.ba,.int .i64 x.Line,.int .i64 x.Col]
 ok:=fun S w r x=>True
 npos:=by decide
 bpos:=by decide
 len:=fun _ _=>rfl
 one:=fun r x v hv=>by
  have h:[.string x.Text.ba,.int .i64 x.Line,.int .i64 x.Col].all Value.oneCell'=true:=rfl
  exact List.all_eq_true.1 h v hv
 mono:=fun _ _ _ _ _ _ h=>h
 dep:=fun _ _ _ _ _ _ h=>h
structure qh where
 tH:Int
 end_:Int
 deriving DecidableEq,Inhabited
instance:ak qh where
 R:=Unit
 n:=2
 bytes:=16
 enc:=fun r x=>[.int .i64 x.tH,.int .i64 x.end_]
 ok:=fun S w r x=>True
 npos:=by decide
 bpos:=by decide
 len:=fun _ _=>rfl
 one:=fun r x v hv=>by
  have h:[.int .i64 x.tH,.int .i64 x.end_].all Value.oneCell'=true:=rfl
  exact List.all_eq_true.1 h v hv
 mono:=fun _ _ _ _ _ _ h=>h
 dep:=fun _ _ _ _ _ _ h=>h
theorem ahA(x y:qh):decide (x=y)=true↔([.int .i64 x.tH,.int .i64 x.end_]:List Value)=[.int .i64 y.tH,.int .i64 y.end_]:=by
 constructor
 ·intro h;rw[of_decide_eq_true h]
 ·intro h
  obtain⟨a_1,a_2⟩:=x
  obtain⟨b_1,Gi⟩:=y
  simp only[List.cons.injEq,Value.int.injEq,Value.bool.injEq,Value.string.injEq,Str.Es,true_and,and_true] at h
  simp only[decide_eq_true_eq,qh.mk.injEq]
  simp_all
structure Step where
 Section:Int
 Dir:Int
 deriving DecidableEq,Inhabited
instance:ak Step where
 R:=Unit
 n:=2
 bytes:=16
 enc:=fun r x=>[.int .i64 x.Section,.int .i64 x.Dir]
 ok:=fun S w r x=>True
 npos:=by decide
 bpos:=by decide
 len:=fun _ _=>rfl
 one:=fun r x v hv=>by
  have h:[.int .i64 x.Section,.int .i64 x.Dir].all Value.oneCell'=true:=rfl
  exact List.all_eq_true.1 h v hv
 mono:=fun _ _ _ _ _ _ h=>h
 dep:=fun _ _ _ _ _ _ h=>h
theorem ahC(x y:Step):decide (x=y)=true↔([.int .i64 x.Section,.int .i64 x.Dir]:List Value)=[.int .i64 y.Section,.int .i64 y.Dir]:=by
 constructor
 ·intro h;rw[of_decide_eq_true h]
 ·intro h
  obtain⟨a_1,a_2⟩:=x
  obtain⟨b_1,Gi⟩:=y
  simp only[List.cons.injEq,Value.int.injEq,Value.bool.injEq,Value.string.injEq,Str.Es,true_and,and_true] at h
  simp only[decide_eq_true_eq,Step.mk.injEq]
  simp_all
structure lK where
 tH:Int
 side:Int
 deriving DecidableEq,Inhabited
instance:ak lK where
 R:=Unit
 n:=2
 bytes:=16
 enc:=fun r x=>[.int .i64 x.tH,.int .i64 x.side]
 ok:=fun S w r x=>True
 npos:=by decide
 bpos:=by decide
 len:=fun _ _=>rfl
 one:=fun r x v hv=>by
  have h:[.int .i64 x.tH,.int .i64 x.side].all Value.oneCell'=true:=rfl
  exact List.all_eq_true.1 h v hv
 mono:=fun _ _ _ _ _ _ h=>h
 dep:=fun _ _ _ _ _ _ h=>h
theorem Ua(x y:lK):decide (x=y)=true↔([.int .i64 x.tH,.int .i64 x.side]:List Value)=[.int .i64 y.tH,.int .i64 y.side]:=by
 constructor
 ·intro h;rw[of_decide_eq_true h]
 ·intro h
  obtain⟨a_1,a_2⟩:=x
  obtain⟨b_1,Gi⟩:=y
  simp only[List.cons.injEq,Value.int.injEq,Value.bool.injEq,Value.string.injEq,Str.Es,true_and,and_true] at h
  simp only[decide_eq_true_eq,lK.mk.injEq]
  simp_all
structure aQ where
 Steps:List Step
 Overlap:Int
 deriving DecidableEq,Inhabited
instance:ak aQ where
 R:=(ak.R (List Step))
 n:=2
 bytes:=32
 enc:=fun r x=>[.slice r.a x.Steps.length r.cap,.int .i64 x.Overlap]
 ok:=fun S w r x=>ak.ok S w r x.Steps
 npos:=by decide
 bpos:=by decide
 len:=fun _ _=>rfl
 one:=fun r x v hv=>by
  have h:[.slice r.a x.Steps.length r.cap,.int .i64 x.Overlap].all Value.oneCell'=true:=rfl
  exact List.all_eq_true.1 h v hv
 mono:=fun S S' w r x hs h=>ak.mono S S' w _ _ hs h
 dep:=fun S w w' r x hs h=>ak.dep S w w' _ _ hs h
structure Cell where
 Limit:Int
 lJ:Int
 deriving DecidableEq,Inhabited
instance:ak Cell where
 R:=Unit
 n:=2
 bytes:=16
 enc:=fun r x=>[.int .i64 x.Limit,.int .i64 x.lJ]
 ok:=fun S w r x=>True
 npos:=by decide
 bpos:=by decide
 len:=fun _ _=>rfl
 one:=fun r x v hv=>by
  have h:[.int .i64 x.Limit,.int .i64 x.lJ].all Value.oneCell'=true:=rfl
  exact List.all_eq_true.1 h v hv
 mono:=fun _ _ _ _ _ _ h=>h
 dep:=fun _ _ _ _ _ _ h=>h
structure bT where
 l:List Int
 i:Int
 deriving DecidableEq,Inhabited
instance:ak bT where
 R:=(ak.R (List Int))
 n:=2
 bytes:=32
 enc:=fun r x=>[.slice r.a x.l.length r.cap,.int .i64 x.i]
 ok:=fun S w r x=>ak.ok S w r x.l
 npos:=by decide
 bpos:=by decide
 len:=fun _ _=>rfl
 one:=fun r x v hv=>by
  have h:[.slice r.a x.l.length r.cap,.int .i64 x.i].all Value.oneCell'=true:=rfl
  exact List.all_eq_true.1 h v hv
 mono:=fun S S' w r x hs h=>ak.mono S S' w _ _ hs h
 dep:=fun S w w' r x hs h=>ak.dep S w w' _ _ hs h
structure dG where
 l:Layout
 tracks:List (List Int)
 between:List (List Int)
 eB:List (List Int)
 deriving DecidableEq,Inhabited
instance:ak dG where
 R:=(ak.R Layout)×(ak.R (List (List Int)))×(ak.R (List (List Int)))×(ak.R (List (List Int)))
 n:=7
 bytes:=168
 enc:=fun r x=>[.slice r.1.1.a x.l.aM.length r.1.1.cap,.slice r.1.2.1.a x.l.aV.length r.1.2.1.cap,.slice r.1.2.2.1.a x.l.Sections.length r.1.2.2.1.cap,.slice r.1.2.2.2.a x.l.Links.length r.1.2.2.2.cap,.slice r.2.1.a x.tracks.length r.2.1.cap,.slice r.2.2.1.a x.between.length r.2.2.1.cap,.slice r.2.2.2.a x.eB.length r.2.2.2.cap]
 ok:=fun S w r x=>ak.ok S w r.1 x.l∧ak.ok S w r.2.1 x.tracks∧ak.ok S w r.2.2.1 x.between∧ak.ok S w r.2.2.2 x.eB
 npos:=by decide
 bpos:=by decide
 len:=fun _ _=>rfl
 one:=fun r x v hv=>by
  have h:[.slice r.1.1.a x.l.aM.length r.1.1.cap,.slice r.1.2.1.a x.l.aV.length r.1.2.1.cap,.slice r.1.2.2.1.a x.l.Sections.length r.1.2.2.1.cap,.slice r.1.2.2.2.a x.l.Links.length r.1.2.2.2.cap,.slice r.2.1.a x.tracks.length r.2.1.cap,.slice r.2.2.1.a x.between.length r.2.2.1.cap,.slice r.2.2.2.a x.eB.length r.2.2.2.cap].all Value.oneCell'=true:=rfl
  exact List.all_eq_true.1 h v hv
 mono:=fun S S' w r x hs ⟨h0,h1,h2,h3⟩=>⟨ak.mono S S' w _ _ hs h0,ak.mono S S' w _ _ hs h1,ak.mono S S' w _ _ hs h2,ak.mono S S' w _ _ hs h3⟩
 dep:=fun S w w' r x hs ⟨h0,h1,h2,h3⟩=>⟨ak.dep S w w' _ _ hs h0,ak.dep S w w' _ _ hs h1,ak.dep S w w' _ _ hs h2,ak.dep S w w' _ _ hs h3⟩
structure bA where
 Name:Str
 Length:Int
 tX:Int
 tQ:Int
 tV:Int
 deriving DecidableEq,Inhabited
instance:ak bA where
 R:=Unit
 n:=5
 bytes:=48
 enc:=fun r x=>[.string x.Name.ba,.int .i64 x.Length,.int .i64 x.tX,.int .i64 x.tQ,.int .i64 x.tV]
 ok:=fun S w r x=>True
 npos:=by decide
 bpos:=by decide
 len:=fun _ _=>rfl
 one:=fun r x v hv=>by
  have h:[.string x.Name.ba,.int .i64 x.Length,.int .i64 x.tX,.int .i64 x.tQ,.int .i64 x.tV].all Value.oneCell'=true:=rfl
  exact List.all_eq_true.1 h v hv
 mono:=fun _ _ _ _ _ _ h=>h
 dep:=fun _ _ _ _ _ _ h=>h
theorem ahD(x y:bA):decide (x=y)=true↔([.string x.Name.ba,.int .i64 x.Length,.int .i64 x.tX,.int .i64 x.tQ,.int .i64 x.tV]:List Value)=[.string y.Name.ba,.int .i64 y.Length,.int .i64 y.tX,.int .i64 y.tQ,.int .i64 y.tV]:=by
 constructor
 ·intro h;rw[of_decide_eq_true h]
 ·intro h
  obtain⟨a_1,a_2,Oj,Ue,a_5⟩:=x
  obtain⟨b_1,Gi,Oy,Uh,b_5⟩:=y
  simp only[List.cons.injEq,Value.int.injEq,Value.bool.injEq,Value.string.injEq,Str.Es,true_and,and_true] at h
  simp only[decide_eq_true_eq,bA.mk.injEq]
  simp_all
structure tT where
 cells:List Cell
 first:Int
 deriving DecidableEq,Inhabited
instance:ak tT where
 R:=(ak.R (List Cell))
 n:=2
 bytes:=32
 enc:=fun r x=>[.slice r.a x.cells.length r.cap,.int .i64 x.first]
 ok:=fun S w r x=>ak.ok S w r x.cells
 npos:=by decide
 bpos:=by decide
 len:=fun _ _=>rfl
 one:=fun r x v hv=>by
  have h:[.slice r.a x.cells.length r.cap,.int .i64 x.first].all Value.oneCell'=true:=rfl
  exact List.all_eq_true.1 h v hv
 mono:=fun S S' w r x hs h=>ak.mono S S' w _ _ hs h
 dep:=fun S w w' r x hs h=>ak.dep S w w' _ _ hs h
structure dD where
 aQ:Int
 Extra:Int
 Min:Int
 Max:Int
 deriving DecidableEq,Inhabited
instance:ak dD where
 R:=Unit
 n:=4
 bytes:=32
 enc:=fun r x=>[.int .i64 x.aQ,.int .i64 x.Extra,.int .i64 x.Min,.int .i64 x.Max]
 ok:=fun S w r x=>True
 npos:=by decide
 bpos:=by decide
 len:=fun _ _=>rfl
 one:=fun r x v hv=>by
  have h:[.int .i64 x.aQ,.int .i64 x.Extra,.int .i64 x.Min,.int .i64 x.Max].all Value.oneCell'=true:=rfl
  exact List.all_eq_true.1 h v hv
 mono:=fun _ _ _ _ _ _ h=>h
 dep:=fun _ _ _ _ _ _ h=>h
theorem ahB(x y:dD):decide (x=y)=true↔([.int .i64 x.aQ,.int .i64 x.Extra,.int .i64 x.Min,.int .i64 x.Max]:List Value)=[.int .i64 y.aQ,.int .i64 y.Extra,.int .i64 y.Min,.int .i64 y.Max]:=by
 constructor
 ·intro h;rw[of_decide_eq_true h]
 ·intro h
  obtain⟨a_1,a_2,Oj,Ue⟩:=x
  obtain⟨b_1,Gi,Oy,Uh⟩:=y
  simp only[List.cons.injEq,Value.int.injEq,Value.bool.injEq,Value.string.injEq,Str.Es,true_and,and_true] at h
  simp only[decide_eq_true_eq,dD.mk.injEq]
  simp_all
structure Line where
 Name:Str
 bA:Int
 Weight:Int
 bL:List dD
 deriving DecidableEq,Inhabited
instance:ak Line where
 R:=(ak.R (List dD))
 n:=4
 bytes:=56
 enc:=fun r x=>[.string x.Name.ba,.int .i64 x.bA,.int .i64 x.Weight,.slice r.a x.bL.length r.cap]
 ok:=fun S w r x=>ak.ok S w r x.bL
 npos:=by decide
 bpos:=by decide
 len:=fun _ _=>rfl
 one:=fun r x v hv=>by
  have h:[.string x.Name.ba,.int .i64 x.bA,.int .i64 x.Weight,.slice r.a x.bL.length r.cap].all Value.oneCell'=true:=rfl
  exact List.all_eq_true.1 h v hv
 mono:=fun S S' w r x hs h=>ak.mono S S' w _ _ hs h
 dep:=fun S w w' r x hs h=>ak.dep S w w' _ _ hs h
instance:Inner Line dD where
 get:=fun x=>x.bL
 rep:=fun r=>r
 okI:=fun _ _ _ _ h=>h
structure Change where
 jk:Int
 kP:Int
 kg:Int
 mX:Int
 Min:Int
 Max:Int
 Weight:Int
 deriving DecidableEq,Inhabited
instance:ak Change where
 R:=Unit
 n:=7
 bytes:=56
 enc:=fun r x=>[.int .i64 x.jk,.int .i64 x.kP,.int .i64 x.kg,.int .i64 x.mX,.int .i64 x.Min,.int .i64 x.Max,.int .i64 x.Weight]
 ok:=fun S w r x=>True
 npos:=by decide
 bpos:=by decide
 len:=fun _ _=>rfl
 one:=fun r x v hv=>by
  have h:[.int .i64 x.jk,.int .i64 x.kP,.int .i64 x.kg,.int .i64 x.mX,.int .i64 x.Min,.int .i64 x.Max,.int .i64 x.Weight].all Value.oneCell'=true:=rfl
  exact List.all_eq_true.1 h v hv
 mono:=fun _ _ _ _ _ _ h=>h
 dep:=fun _ _ _ _ _ _ h=>h
theorem ahl(x y:Change):decide (x=y)=true↔([.int .i64 x.jk,.int .i64 x.kP,.int .i64 x.kg,.int .i64 x.mX,.int .i64 x.Min,.int .i64 x.Max,.int .i64 x.Weight]:List Value)=[.int .i64 y.jk,.int .i64 y.kP,.int .i64 y.kg,.int .i64 y.mX,.int .i64 y.Min,.int .i64 y.Max,.int .i64 y.Weight]:=by
 constructor
 ·intro h;rw[of_decide_eq_true h]
 ·intro h
  obtain⟨a_1,a_2,Oj,Ue,a_5,a_6,a_7⟩:=x
  obtain⟨b_1,Gi,Oy,Uh,b_5,b_6,b_7⟩:=y
  simp only[List.cons.injEq,Value.int.injEq,Value.bool.injEq,Value.string.injEq,Str.Es,true_and,and_true] at h
  simp only[decide_eq_true_eq,Change.mk.injEq]
  simp_all
structure Turn where
 From:Int
 To:Int
 Min:Int
 Max:Int
 deriving DecidableEq,Inhabited
instance:ak Turn where
 R:=Unit
 n:=4
 bytes:=32
 enc:=fun r x=>[.int .i64 x.From,.int .i64 x.To,.int .i64 x.Min,.int .i64 x.Max]
 ok:=fun S w r x=>True
 npos:=by decide
 bpos:=by decide
 len:=fun _ _=>rfl
 one:=fun r x v hv=>by
  have h:[.int .i64 x.From,.int .i64 x.To,.int .i64 x.Min,.int .i64 x.Max].all Value.oneCell'=true:=rfl
  exact List.all_eq_true.1 h v hv
 mono:=fun _ _ _ _ _ _ h=>h
 dep:=fun _ _ _ _ _ _ h=>h
theorem ahF(x y:Turn):decide (x=y)=true↔([.int .i64 x.From,.int .i64 x.To,.int .i64 x.Min,.int .i64 x.Max]:List Value)=[.int .i64 y.From,.int .i64 y.To,.int .i64 y.Min,.int .i64 y.Max]:=by
 constructor
 ·intro h;rw[of_decide_eq_true h]
 ·intro h
  obtain⟨a_1,a_2,Oj,Ue⟩:=x
  obtain⟨b_1,Gi,Oy,Uh⟩:=y
  simp only[List.cons.injEq,Value.int.injEq,Value.bool.injEq,Value.string.injEq,Str.Es,true_and,and_true] at h
  simp only[decide_eq_true_eq,Turn.mk.injEq]
  simp_all
structure Sync where
 mD:Int
 lV:Int
 mQ:Int
 mE:Int
 Offset:Int
 deriving DecidableEq,Inhabited
instance:ak Sync where
 R:=Unit
 n:=5
 bytes:=40
 enc:=fun r x=>[.int .i64 x.mD,.int .i64 x.lV,.int .i64 x.mQ,.int .i64 x.mE,.int .i64 x.Offset]
 ok:=fun S w r x=>True
 npos:=by decide
 bpos:=by decide
 len:=fun _ _=>rfl
 one:=fun r x v hv=>by
  have h:[.int .i64 x.mD,.int .i64 x.lV,.int .i64 x.mQ,.int .i64 x.mE,.int .i64 x.Offset].all Value.oneCell'=true:=rfl
  exact List.all_eq_true.1 h v hv
 mono:=fun _ _ _ _ _ _ h=>h
 dep:=fun _ _ _ _ _ _ h=>h
theorem ahE(x y:Sync):decide (x=y)=true↔([.int .i64 x.mD,.int .i64 x.lV,.int .i64 x.mQ,.int .i64 x.mE,.int .i64 x.Offset]:List Value)=[.int .i64 y.mD,.int .i64 y.lV,.int .i64 y.mQ,.int .i64 y.mE,.int .i64 y.Offset]:=by
 constructor
 ·intro h;rw[of_decide_eq_true h]
 ·intro h
  obtain⟨a_1,a_2,Oj,Ue,a_5⟩:=x
  obtain⟨b_1,Gi,Oy,Uh,b_5⟩:=y
  simp only[List.cons.injEq,Value.int.injEq,Value.bool.injEq,Value.string.injEq,Str.Es,true_and,and_true] at h
  simp only[decide_eq_true_eq,Sync.mk.injEq]
  simp_all
structure dB where
 From:Int
 To:Int
 Weight:Int
 deriving DecidableEq,Inhabited
instance:ak dB where
 R:=Unit
 n:=3
 bytes:=24
 enc:=fun r x=>[.int .i64 x.From,.int .i64 x.To,.int .i64 x.Weight]
 ok:=fun S w r x=>True
 npos:=by decide
 bpos:=by decide
 len:=fun _ _=>rfl
 one:=fun r x v hv=>by
  have h:[.int .i64 x.From,.int .i64 x.To,.int .i64 x.Weight].all Value.oneCell'=true:=rfl
  exact List.all_eq_true.1 h v hv
 mono:=fun _ _ _ _ _ _ h=>h
 dep:=fun _ _ _ _ _ _ h=>h
theorem ahn(x y:dB):decide (x=y)=true↔([.int .i64 x.From,.int .i64 x.To,.int .i64 x.Weight]:List Value)=[.int .i64 y.From,.int .i64 y.To,.int .i64 y.Weight]:=by
 constructor
 ·intro h;rw[of_decide_eq_true h]
 ·intro h
  obtain⟨a_1,a_2,Oj⟩:=x
  obtain⟨b_1,Gi,Oy⟩:=y
  simp only[List.cons.injEq,Value.int.injEq,Value.bool.injEq,Value.string.injEq,Str.Es,true_and,and_true] at h
  simp only[decide_eq_true_eq,dB.mk.injEq]
  simp_all
structure Plan where
 bR:Int
 aU:List bA
 Routes:List aQ
 Lines:List Line
 Changes:List Change
 Turns:List Turn
 bq:List Sync
 bg:List dB
 deriving DecidableEq,Inhabited
instance:ak Plan where
 R:=(ak.R (List bA))×(ak.R (List aQ))×(ak.R (List Line))×(ak.R (List Change))×(ak.R (List Turn))×(ak.R (List Sync))×(ak.R (List dB))
 n:=8
 bytes:=176
 enc:=fun r x=>[.int .i64 x.bR,.slice r.1.a x.aU.length r.1.cap,.slice r.2.1.a x.Routes.length r.2.1.cap,.slice r.2.2.1.a x.Lines.length r.2.2.1.cap,.slice r.2.2.2.1.a x.Changes.length r.2.2.2.1.cap,.slice r.2.2.2.2.1.a x.Turns.length r.2.2.2.2.1.cap,.slice r.2.2.2.2.2.1.a x.bq.length r.2.2.2.2.2.1.cap,.slice r.2.2.2.2.2.2.a x.bg.length r.2.2.2.2.2.2.cap]
 ok:=fun S w r x=>ak.ok S w r.1 x.aU∧ak.ok S w r.2.1 x.Routes∧ak.ok S w r.2.2.1 x.Lines∧ak.ok S w r.2.2.2.1 x.Changes∧ak.ok S w r.2.2.2.2.1 x.Turns∧ak.ok S w r.2.2.2.2.2.1 x.bq∧ak.ok S w r.2.2.2.2.2.2 x.bg
 npos:=by decide
 bpos:=by decide
 len:=fun _ _=>rfl
 one:=fun r x v hv=>by
  have h:[.int .i64 x.bR,.slice r.1.a x.aU.length r.1.cap,.slice r.2.1.a x.Routes.length r.2.1.cap,.slice r.2.2.1.a x.Lines.length r.2.2.1.cap,.slice r.2.2.2.1.a x.Changes.length r.2.2.2.1.cap,.slice r.2.2.2.2.1.a x.Turns.length r.2.2.2.2.1.cap,.slice r.2.2.2.2.2.1.a x.bq.length r.2.2.2.2.2.1.cap,.slice r.2.2.2.2.2.2.a x.bg.length r.2.2.2.2.2.2.cap].all Value.oneCell'=true:=rfl
  exact List.all_eq_true.1 h v hv
 mono:=fun S S' w r x hs ⟨h0,h1,h2,h3,h4,h5,h6⟩=>⟨ak.mono S S' w _ _ hs h0,ak.mono S S' w _ _ hs h1,ak.mono S S' w _ _ hs h2,ak.mono S S' w _ _ hs h3,ak.mono S S' w _ _ hs h4,ak.mono S S' w _ _ hs h5,ak.mono S S' w _ _ hs h6⟩
 dep:=fun S w w' r x hs ⟨h0,h1,h2,h3,h4,h5,h6⟩=>⟨ak.dep S w w' _ _ hs h0,ak.dep S w w' _ _ hs h1,ak.dep S w w' _ _ hs h2,ak.dep S w w' _ _ hs h3,ak.dep S w w' _ _ hs h4,ak.dep S w w' _ _ hs h5,ak.dep S w w' _ _ hs h6⟩
instance:ak Any where
 R:=Unit
 n:=1
 bytes:=16
 enc:=fun _ x=>[En 9 3 x]
 ok:=fun _ _ _ _=>True
 npos:=Nat.one_pos
 bpos:=by omega
 len:=fun _ _=>rfl
 one:=fun _ x v hv=>by simp at hv;subst hv;cases x<;>rfl
 mono:=fun _ _ _ _ _ _ h=>h
 dep:=fun _ _ _ _ _ _ h=>h
structure kC where
 lines:List (List Str)
 deriving DecidableEq,Inhabited
instance:ak kC where
 R:=(ak.R (List (List Str)))
 n:=1
 bytes:=24
 enc:=fun r x=>[.slice r.a x.lines.length r.cap]
 ok:=fun S w r x=>ak.ok S w r x.lines
 npos:=by decide
 bpos:=by decide
 len:=fun _ _=>rfl
 one:=fun r x v hv=>by
  have h:[.slice r.a x.lines.length r.cap].all Value.oneCell'=true:=rfl
  exact List.all_eq_true.1 h v hv
 mono:=fun S S' w r x hs h=>ak.mono S S' w _ _ hs h
 dep:=fun S w w' r x hs h=>ak.dep S w w' _ _ hs h
structure bO where
 l:Layout
 p:Plan
 period:Bool
 w:List Str
 e:Int
 deriving DecidableEq,Inhabited
instance:ak bO where
 R:=(ak.R Layout)×(ak.R Plan)×(ak.R (List Str))
 n:=15
 bytes:=312
 enc:=fun r x=>[.slice r.1.1.a x.l.aM.length r.1.1.cap,.slice r.1.2.1.a x.l.aV.length r.1.2.1.cap,.slice r.1.2.2.1.a x.l.Sections.length r.1.2.2.1.cap,.slice r.1.2.2.2.a x.l.Links.length r.1.2.2.2.cap,.int .i64 x.p.bR,.slice r.2.1.1.a x.p.aU.length r.2.1.1.cap,.slice r.2.1.2.1.a x.p.Routes.length r.2.1.2.1.cap,.slice r.2.1.2.2.1.a x.p.Lines.length r.2.1.2.2.1.cap,.slice r.2.1.2.2.2.1.a x.p.Changes.length r.2.1.2.2.2.1.cap,.slice r.2.1.2.2.2.2.1.a x.p.Turns.length r.2.1.2.2.2.2.1.cap,.slice r.2.1.2.2.2.2.2.1.a x.p.bq.length r.2.1.2.2.2.2.2.1.cap,.slice r.2.1.2.2.2.2.2.2.a x.p.bg.length r.2.1.2.2.2.2.2.2.cap,.bool x.period,.slice r.2.2.a x.w.length r.2.2.cap,.int .i64 x.e]
 ok:=fun S w r x=>ak.ok S w r.1 x.l∧ak.ok S w r.2.1 x.p∧ak.ok S w r.2.2 x.w
 npos:=by decide
 bpos:=by decide
 len:=fun _ _=>rfl
 one:=fun r x v hv=>by
  have h:[.slice r.1.1.a x.l.aM.length r.1.1.cap,.slice r.1.2.1.a x.l.aV.length r.1.2.1.cap,.slice r.1.2.2.1.a x.l.Sections.length r.1.2.2.1.cap,.slice r.1.2.2.2.a x.l.Links.length r.1.2.2.2.cap,.int .i64 x.p.bR,.slice r.2.1.1.a x.p.aU.length r.2.1.1.cap,.slice r.2.1.2.1.a x.p.Routes.length r.2.1.2.1.cap,.slice r.2.1.2.2.1.a x.p.Lines.length r.2.1.2.2.1.cap,.slice r.2.1.2.2.2.1.a x.p.Changes.length r.2.1.2.2.2.1.cap,.slice r.2.1.2.2.2.2.1.a x.p.Turns.length r.2.1.2.2.2.2.1.cap,.slice r.2.1.2.2.2.2.2.1.a x.p.bq.length r.2.1.2.2.2.2.2.1.cap,.slice r.2.1.2.2.2.2.2.2.a x.p.bg.length r.2.1.2.2.2.2.2.2.cap,.bool x.period,.slice r.2.2.a x.w.length r.2.2.cap,.int .i64 x.e].all Value.oneCell'=true:=rfl
  exact List.all_eq_true.1 h v hv
 mono:=fun S S' w r x hs ⟨h0,h1,h2⟩=>⟨ak.mono S S' w _ _ hs h0,ak.mono S S' w _ _ hs h1,ak.mono S S' w _ _ hs h2⟩
 dep:=fun S w w' r x hs ⟨h0,h1,h2⟩=>⟨ak.dep S w w' _ _ hs h0,ak.dep S w w' _ _ hs h1,ak.dep S w w' _ _ hs h2⟩
structure Hop where
 To:Step
 Point:Int
 Pos:Int
 deriving DecidableEq,Inhabited
instance:ak Hop where
 R:=Unit
 n:=4
 bytes:=32
 enc:=fun r x=>[.int .i64 x.To.Section,.int .i64 x.To.Dir,.int .i64 x.Point,.int .i64 x.Pos]
 ok:=fun S w r x=>True
 npos:=by decide
 bpos:=by decide
 len:=fun _ _=>rfl
 one:=fun r x v hv=>by
  have h:[.int .i64 x.To.Section,.int .i64 x.To.Dir,.int .i64 x.Point,.int .i64 x.Pos].all Value.oneCell'=true:=rfl
  exact List.all_eq_true.1 h v hv
 mono:=fun _ _ _ _ _ _ h=>h
 dep:=fun _ _ _ _ _ _ h=>h
structure ab1 where
 l:Layout
 p:Plan
 periods:Int
 deriving DecidableEq,Inhabited
instance:ak ab1 where
 R:=(ak.R Layout)×(ak.R Plan)
 n:=13
 bytes:=280
 enc:=fun r x=>[.slice r.1.1.a x.l.aM.length r.1.1.cap,.slice r.1.2.1.a x.l.aV.length r.1.2.1.cap,.slice r.1.2.2.1.a x.l.Sections.length r.1.2.2.1.cap,.slice r.1.2.2.2.a x.l.Links.length r.1.2.2.2.cap,.int .i64 x.p.bR,.slice r.2.1.a x.p.aU.length r.2.1.cap,.slice r.2.2.1.a x.p.Routes.length r.2.2.1.cap,.slice r.2.2.2.1.a x.p.Lines.length r.2.2.2.1.cap,.slice r.2.2.2.2.1.a x.p.Changes.length r.2.2.2.2.1.cap,.slice r.2.2.2.2.2.1.a x.p.Turns.length r.2.2.2.2.2.1.cap,.slice r.2.2.2.2.2.2.1.a x.p.bq.length r.2.2.2.2.2.2.1.cap,.slice r.2.2.2.2.2.2.2.a x.p.bg.length r.2.2.2.2.2.2.2.cap,.int .i64 x.periods]
 ok:=fun S w r x=>ak.ok S w r.1 x.l∧ak.ok S w r.2 x.p
 npos:=by decide
 bpos:=by decide
 len:=fun _ _=>rfl
 one:=fun r x v hv=>by
  have h:[.slice r.1.1.a x.l.aM.length r.1.1.cap,.slice r.1.2.1.a x.l.aV.length r.1.2.1.cap,.slice r.1.2.2.1.a x.l.Sections.length r.1.2.2.1.cap,.slice r.1.2.2.2.a x.l.Links.length r.1.2.2.2.cap,.int .i64 x.p.bR,.slice r.2.1.a x.p.aU.length r.2.1.cap,.slice r.2.2.1.a x.p.Routes.length r.2.2.1.cap,.slice r.2.2.2.1.a x.p.Lines.length r.2.2.2.1.cap,.slice r.2.2.2.2.1.a x.p.Changes.length r.2.2.2.2.1.cap,.slice r.2.2.2.2.2.1.a x.p.Turns.length r.2.2.2.2.2.1.cap,.slice r.2.2.2.2.2.2.1.a x.p.bq.length r.2.2.2.2.2.2.1.cap,.slice r.2.2.2.2.2.2.2.a x.p.bg.length r.2.2.2.2.2.2.2.cap,.int .i64 x.periods].all Value.oneCell'=true:=rfl
  exact List.all_eq_true.1 h v hv
 mono:=fun S S' w r x hs ⟨h0,h1⟩=>⟨ak.mono S S' w _ _ hs h0,ak.mono S S' w _ _ hs h1⟩
 dep:=fun S w w' r x hs ⟨h0,h1⟩=>⟨ak.dep S w w' _ _ hs h0,ak.dep S w w' _ _ hs h1⟩
abbrev JJ:SR (ak.R Cell):=⟨none,0,(fun _=>())⟩
abbrev pV:SR (ak.R Change):=⟨none,0,(fun _=>())⟩
abbrev mg:SR (ak.R dB):=⟨none,0,(fun _=>())⟩
abbrev AY:SR (ak.R Int):=⟨none,0,(fun _=>())⟩
abbrev pW:SR (ak.R Line):=⟨none,0,(fun _=>(⟨none,0,(fun _=>())⟩:SR (ak.R dD)))⟩
abbrev qQ:SR (ak.R Link):=⟨none,0,(fun _=>())⟩
abbrev gY:SR (ak.R (List Int)):=⟨none,0,(fun _=>(⟨none,0,(fun _=>())⟩:SR (ak.R Int)))⟩
abbrev amI:SR (ak.R (List Str)):=⟨none,0,(fun _=>(⟨none,0,(fun _=>())⟩:SR (ak.R Str)))⟩
abbrev aap:SR (ak.R (List Word)):=⟨none,0,(fun _=>(⟨none,0,(fun _=>())⟩:SR (ak.R Word)))⟩
abbrev sw:SR (ak.R dD):=⟨none,0,(fun _=>())⟩
abbrev sD:SR (ak.R aQ):=⟨none,0,(fun _=>(⟨none,0,(fun _=>())⟩:SR (ak.R Step)))⟩
abbrev uy:SR (ak.R Section):=⟨none,0,(fun _=>())⟩
abbrev uz:SR (ak.R Step):=⟨none,0,(fun _=>())⟩
abbrev sZ:SR (ak.R bA):=⟨none,0,(fun _=>())⟩
abbrev je:SR (ak.R Str):=⟨none,0,(fun _=>())⟩
abbrev mJ:SR (ak.R Sync):=⟨none,0,(fun _=>())⟩
abbrev qF:SR (ak.R Turn):=⟨none,0,(fun _=>())⟩
abbrev amJ:SR (ak.R UInt8):=⟨none,0,(fun _=>())⟩
abbrev GZ:SR (ak.R Word):=⟨none,0,(fun _=>())⟩
abbrev Co(x:Section):List Value:=[.string x.Name.ba,vI x.Length,vI x.Limit,vI x.lJ,vI x.pQ]
abbrev Ud(x:Section):Array Value:=(Co x).toArray
abbrev wF(x:Link):List Value:=[vI x.A,vI x.lg,vI x.B,vI x.lu,vI x.Point,vI x.Pos]
abbrev ahG(x:Link):Array Value:=(wF x).toArray
abbrev dP(x:Layout)(r:ak.R Layout):List Value:=[sL r.1 x.aM,sL r.2.1 x.aV,sL r.2.2.1 x.Sections,sL r.2.2.2 x.Links]
abbrev lC(x:Layout)(r:ak.R Layout):Array Value:=(dP x r).toArray
abbrev aau(x:Word):List Value:=[.string x.Text.ba,vI x.Line,vI x.Col]
abbrev Q0(x:qh):List Value:=[vI x.tH,vI x.end_]
abbrev ab3(x:qh):Array Value:=(Q0 x).toArray
abbrev qU(x:Step):List Value:=[vI x.Section,vI x.Dir]
abbrev KO(x:Step):Array Value:=(qU x).toArray
abbrev jH(x:lK):List Value:=[vI x.tH,vI x.side]
abbrev ahH(x:lK):Array Value:=(jH x).toArray
abbrev nU(x:aQ)(r:ak.R aQ):List Value:=[sL r x.Steps,vI x.Overlap]
abbrev C9(x:aQ)(r:ak.R aQ):Array Value:=(nU x r).toArray
abbrev Cn(x:bT)(r:ak.R bT):List Value:=[sL r x.l,vI x.i]
abbrev qH(x:dG)(r:ak.R dG):List Value:=[sL r.1.1 x.l.aM,sL r.1.2.1 x.l.aV,sL r.1.2.2.1 x.l.Sections,sL r.1.2.2.2 x.l.Links,sL r.2.1 x.tracks,sL r.2.2.1 x.between,sL r.2.2.2 x.eB]
abbrev sF(x:bA):List Value:=[.string x.Name.ba,vI x.Length,vI x.tX,vI x.tQ,vI x.tV]
abbrev IZ(x:bA):Array Value:=(sF x).toArray
abbrev aeR(x:tT)(r:ak.R tT):List Value:=[sL r x.cells,vI x.first]
abbrev Ya(x:tT)(r:ak.R tT):Array Value:=(aeR x r).toArray
abbrev wG(x:dD):List Value:=[vI x.aQ,vI x.Extra,vI x.Min,vI x.Max]
abbrev ab4(x:dD):Array Value:=(wG x).toArray
abbrev mV(x:Line)(r:ak.R Line):List Value:=[.string x.Name.ba,vI x.bA,vI x.Weight,sL r x.bL]
abbrev IY(x:Line)(r:ak.R Line):Array Value:=(mV x r).toArray
abbrev JM(x:Change):List Value:=[vI x.jk,vI x.kP,vI x.kg,vI x.mX,vI x.Min,vI x.Max,vI x.Weight]
abbrev yL(x:Turn):List Value:=[vI x.From,vI x.To,vI x.Min,vI x.Max]
abbrev ab5(x:Turn):Array Value:=(yL x).toArray
abbrev JO(x:Sync):List Value:=[vI x.mD,vI x.lV,vI x.mQ,vI x.mE,vI x.Offset]
abbrev JN(x:dB):List Value:=[vI x.From,vI x.To,vI x.Weight]
abbrev gZ(x:Plan)(r:ak.R Plan):List Value:=[vI x.bR,sL r.1 x.aU,sL r.2.1 x.Routes,sL r.2.2.1 x.Lines,sL r.2.2.2.1 x.Changes,sL r.2.2.2.2.1 x.Turns,sL r.2.2.2.2.2.1 x.bq,sL r.2.2.2.2.2.2 x.bg]
abbrev mY(x:Plan)(r:ak.R Plan):Array Value:=(gZ x r).toArray
abbrev G5(x:kC)(r:ak.R kC):List Value:=[sL r x.lines]
abbrev kW(x:bO)(r:ak.R bO):List Value:=[sL r.1.1 x.l.aM,sL r.1.2.1 x.l.aV,sL r.1.2.2.1 x.l.Sections,sL r.1.2.2.2 x.l.Links,vI x.p.bR,sL r.2.1.1 x.p.aU,sL r.2.1.2.1 x.p.Routes,sL r.2.1.2.2.1 x.p.Lines,sL r.2.1.2.2.2.1 x.p.Changes,sL r.2.1.2.2.2.2.1 x.p.Turns,sL r.2.1.2.2.2.2.2.1 x.p.bq,sL r.2.1.2.2.2.2.2.2 x.p.bg,.bool x.period,sL r.2.2 x.w,vI x.e]
end Go.Proofs.YtcalibhfgdncaaaGreatDoor
namespace Go.Dc
open Go.Proofs.YtcalibhfgdncaaaGreatDoor Go.RowKit
theorem Mem.lS{S:bB}{w:World}{cs H:List Chunk}{r:ak.R Layout}{x:Layout}(hm:Mem (rC w S cs) H w)(h:ak.ok S w r x):Mem (rC w S cs) (dW (α:=List Link) r.2.2.2 x.Links::dW (α:=List Section) r.2.2.1 x.Sections::dW (α:=List Str) r.2.1 x.aV::dW (α:=List Str) r.1 x.aM::H) w:=
 hm |>.bU (α:=List Str) (r:=r.1) (x:=x.aM) h.1 |>.bU (α:=List Str) (r:=r.2.1) (x:=x.aV) h.2.1 |>.bU (α:=List Section) (r:=r.2.2.1) (x:=x.Sections) h.2.2.1 |>.bU (α:=List Link) (r:=r.2.2.2) (x:=x.Links) h.2.2.2
theorem Mem.oC{S:bB}{w:World}{cs H:List Chunk}{r:ak.R Plan}{x:Plan}(hm:Mem (rC w S cs) H w)(h:ak.ok S w r x):Mem (rC w S cs) (dW (α:=List dB) r.2.2.2.2.2.2 x.bg::dW (α:=List Sync) r.2.2.2.2.2.1 x.bq::dW (α:=List Turn) r.2.2.2.2.1 x.Turns::dW (α:=List Change) r.2.2.2.1 x.Changes::dW (α:=List Line) r.2.2.1 x.Lines::dW (α:=List aQ) r.2.1 x.Routes::dW (α:=List bA) r.1 x.aU::H) w:=
 hm |>.bU (α:=List bA) (r:=r.1) (x:=x.aU) h.1 |>.bU (α:=List aQ) (r:=r.2.1) (x:=x.Routes) h.2.1 |>.bU (α:=List Line) (r:=r.2.2.1) (x:=x.Lines) h.2.2.1 |>.bU (α:=List Change) (r:=r.2.2.2.1) (x:=x.Changes) h.2.2.2.1 |>.bU (α:=List Turn) (r:=r.2.2.2.2.1) (x:=x.Turns) h.2.2.2.2.1 |>.bU (α:=List Sync) (r:=r.2.2.2.2.2.1) (x:=x.bq) h.2.2.2.2.2.1 |>.bU (α:=List dB) (r:=r.2.2.2.2.2.2) (x:=x.bg) h.2.2.2.2.2.2
end Go.Dc

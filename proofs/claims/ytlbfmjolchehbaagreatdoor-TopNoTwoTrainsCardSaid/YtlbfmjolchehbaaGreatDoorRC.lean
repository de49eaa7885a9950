/- The program's types. -/
import Derived.Test.YtlbfmjolchehbaaGreatDoorErj
import Derived.Test.YtlbfmjolchehbaaGreatDoorProg
set_option linter.all false
namespace Go.Z
open Go Go.Proofs Go.Dc Go.R
structure Section where
 Name:Str
 Length:Int
 Limit:Int
 Vd:Int
 asl:Int
structure Link where
 A:Int
 ari:Int
 B:Int
 aro:Int
 Point:Int
 Pos:Int
structure Layout where
 VP:List Str
 ase:List Str
 Sections:List Section
 Links:List Link
structure bO where
 Name:Str
 Length:Int
 asj:Int
 arj:Int
 arp:Int
structure Step where
 Section:Int
 Dir:Int
structure bg where
 Steps:List Step
 Overlap:Int
structure gL where
 bg:Int
 Extra:Int
 Min:Int
 Max:Int
structure Line where
 Name:Str
 bO:Int
 Weight:Int
 VI:List gL
structure Change where
 arw:Int
 arx:Int
 asF:Int
 asG:Int
 Min:Int
 Max:Int
 Weight:Int
structure Turn where
 From:Int
 To:Int
 Min:Int
 Max:Int
structure Sync where
 ar2:Int
 asf:Int
 ar3:Int
 ash:Int
 Offset:Int
structure dG where
 From:Int
 To:Int
 Weight:Int
structure Plan where
 AA:Int
 asn:List bO
 Routes:List bg
 Lines:List Line
 Changes:List Change
 Turns:List Turn
 aso:List Sync
 aru:List dG
structure mo where
 arq:List Int
 ars:List Int
 Times:Int
structure oG where
 AA:Int
 Times:List Int
 U9:Int
 Bound:Int
 Parts:List mo
structure iD where
 Set:List Int
 asL:List (List Int)
structure Use where
 Resource:Int
 asJ:Int
 From:Int
 Len:Int
 arV:Int
structure Event where
 Kind:Int
 Line:Int
 gL:Int
structure bE where
 Kind:Int
 From:Int
 To:Int
 Min:Int
 Max:Int
 Weight:Int
structure Network where
 AA:Int
 Events:List Event
 ark:List bE
structure Vr where
 ar0:List Str
 arY:List Str
 arZ:List Section
 arX:List Link
 ar8:Int
 asa:List bO
 ar9:List bg
 ar7:List Line
 ar5:List Change
 asc:List Turn
 asb:List Sync
 ar6:List dG
 Vx:Int
 Vw:List Event
 Vv:List bE
 Times:List Int
 Moving:Bool
 Turn:List Int
 First:List Int
 VI:Int
 Uses:List Use
structure dO where
 Lines:List Int
 Closed:Bool
structure Builder where
 Ib:List Str
 H9:List Str
 Ia:List Section
 H8:List Link
 Tracks:List (List Int)
 Between:List (List Int)
 asK:List (List Int)
structure Writer where
 Lines:List (List Str)
structure Word where
 Text:Str
 Line:Int
 Col:Int
structure Reader where
 Ib:List Str
 H9:List Str
 Ia:List Section
 H8:List Link
 VD:Int
 VF:List bO
 VE:List bg
 VB:List Line
 Vz:List Change
 VH:List Turn
 VG:List Sync
 VA:List dG
 AA:Bool
 W:List Str
 E:Int
structure aV where
 Resource:Int
 From:Int
 To:Int
structure Join where
 A:Int
 B:Int
 ar1:Int
 Most:Int
structure Vy where
 Ib:List Str
 H9:List Str
 Ia:List Section
 H8:List Link
 VD:Int
 VF:List bO
 VE:List bg
 VB:List Line
 Vz:List Change
 VH:List Turn
 VG:List Sync
 VA:List dG
 First:List Int
 ar4:List (List aV)
 Running:List Int
 Joins:List Join
 Vu:Int
 Vt:List Event
 Vs:List bE
structure VK where
 Left:Int
 Used:Int
structure dD where
 bE:Int
 Sign:Int
structure Cycle where
 arl:List Int
 asi:List Int
structure Service where
 Vx:Int
 Vw:List Event
 Vv:List bE
 Leaving:List (List Int)
 Duration:List Int
 Start:List Int
 Stop:List Int
 VP:Int
structure nZ where
 Section:Int
 Side:Int
structure Source where
 L:List Int
 I:Int
structure Window where
 Min:Int
 Max:Int
structure SearchState where
 Vu:Int
 Vt:List Event
 Vs:List bE
 Limit:List Int
 Closing:List (List Int)
 Times:List Int
 All:Bool
 Budget:Int
 Used:Int
 Over:Bool
 Result:List Int
 U9:Int
 Found:Bool
structure Cell where
 Limit:Int
 Vd:Int
structure vI where
 Cells:List Cell
 First:Int
structure Hop where
 asI:Int
 asH:Int
 Point:Int
 Pos:Int
structure Span where
 From:Int
 To:Int
structure yj where
 Section:Int
 Side:Int
@[reducible] def ZS:Nat->Type:=λi=>
 Nat.casesOn (motive:=λ_=>Type) i Section λi=>
 Nat.casesOn (motive:=λ_=>Type) i Link λi=>
 Nat.casesOn (motive:=λ_=>Type) i Layout λi=>
 Nat.casesOn (motive:=λ_=>Type) i bO λi=>
 Nat.casesOn (motive:=λ_=>Type) i Step λi=>
 Nat.casesOn (motive:=λ_=>Type) i bg λi=>
 Nat.casesOn (motive:=λ_=>Type) i gL λi=>
 Nat.casesOn (motive:=λ_=>Type) i Line λi=>
 Nat.casesOn (motive:=λ_=>Type) i Change λi=>
 Nat.casesOn (motive:=λ_=>Type) i Turn λi=>
 Nat.casesOn (motive:=λ_=>Type) i Sync λi=>
 Nat.casesOn (motive:=λ_=>Type) i dG λi=>
 Nat.casesOn (motive:=λ_=>Type) i Plan λi=>
 Nat.casesOn (motive:=λ_=>Type) i mo λi=>
 Nat.casesOn (motive:=λ_=>Type) i oG λi=>
 Nat.casesOn (motive:=λ_=>Type) i iD λi=>
 Nat.casesOn (motive:=λ_=>Type) i Use λi=>
 Nat.casesOn (motive:=λ_=>Type) i Event λi=>
 Nat.casesOn (motive:=λ_=>Type) i bE λi=>
 Nat.casesOn (motive:=λ_=>Type) i Network λi=>
 Nat.casesOn (motive:=λ_=>Type) i Vr λi=>
 Nat.casesOn (motive:=λ_=>Type) i dO λi=>
 Nat.casesOn (motive:=λ_=>Type) i Builder λi=>
 Nat.casesOn (motive:=λ_=>Type) i Writer λi=>
 Nat.casesOn (motive:=λ_=>Type) i Word λi=>
 Nat.casesOn (motive:=λ_=>Type) i Reader λi=>
 Nat.casesOn (motive:=λ_=>Type) i aV λi=>
 Nat.casesOn (motive:=λ_=>Type) i Join λi=>
 Nat.casesOn (motive:=λ_=>Type) i Vy λi=>
 Nat.casesOn (motive:=λ_=>Type) i VK λi=>
 Nat.casesOn (motive:=λ_=>Type) i dD λi=>
 Nat.casesOn (motive:=λ_=>Type) i Cycle λi=>
 Nat.casesOn (motive:=λ_=>Type) i Service λi=>
 Nat.casesOn (motive:=λ_=>Type) i nZ λi=>
 Nat.casesOn (motive:=λ_=>Type) i Source λi=>
 Nat.casesOn (motive:=λ_=>Type) i Window λi=>
 Nat.casesOn (motive:=λ_=>Type) i SearchState λi=>
 Nat.casesOn (motive:=λ_=>Type) i Cell λi=>
 Nat.casesOn (motive:=λ_=>Type) i vI λi=>
 Nat.casesOn (motive:=λ_=>Type) i Hop λi=>
 Nat.casesOn (motive:=λ_=>Type) i Span λi=>
 Nat.casesOn (motive:=λ_=>Type) i yj λi=>
 Unit
@[reducible] def ZC:Nat->List Cd:=λi=>
 Nat.casesOn (motive:=λ_=>List Cd) i [.str,.int .i64,.int .i64,.int .i64,.int .i64] λi=>
 Nat.casesOn (motive:=λ_=>List Cd) i [.int .i64,.int .i64,.int .i64,.int .i64,.int .i64,.int .i64] λi=>
 Nat.casesOn (motive:=λ_=>List Cd) i [.list .str,.list .str,.list (.st 0),.list (.st 1)] λi=>
 Nat.casesOn (motive:=λ_=>List Cd) i [.str,.int .i64,.int .i64,.int .i64,.int .i64] λi=>
 Nat.casesOn (motive:=λ_=>List Cd) i [.int .i64,.int .i64] λi=>
 Nat.casesOn (motive:=λ_=>List Cd) i [.list (.st 4),.int .i64] λi=>
 Nat.casesOn (motive:=λ_=>List Cd) i [.int .i64,.int .i64,.int .i64,.int .i64] λi=>
 Nat.casesOn (motive:=λ_=>List Cd) i [.str,.int .i64,.int .i64,.list (.st 6)] λi=>
 Nat.casesOn (motive:=λ_=>List Cd) i [.int .i64,.int .i64,.int .i64,.int .i64,.int .i64,.int .i64,.int .i64] λi=>
 Nat.casesOn (motive:=λ_=>List Cd) i [.int .i64,.int .i64,.int .i64,.int .i64] λi=>
 Nat.casesOn (motive:=λ_=>List Cd) i [.int .i64,.int .i64,.int .i64,.int .i64,.int .i64] λi=>
 Nat.casesOn (motive:=λ_=>List Cd) i [.int .i64,.int .i64,.int .i64] λi=>
 Nat.casesOn (motive:=λ_=>List Cd) i [.int .i64,.list (.st 3),.list (.st 5),.list (.st 7),.list (.st 8),.list (.st 9),.list (.st 10),.list (.st 11)] λi=>
 Nat.casesOn (motive:=λ_=>List Cd) i [.list (.int .i64),.list (.int .i64),.int .i64] λi=>
 Nat.casesOn (motive:=λ_=>List Cd) i [.int .i64,.list (.int .i64),.int .i64,.int .i64,.list (.st 13)] λi=>
 Nat.casesOn (motive:=λ_=>List Cd) i [.list (.int .i64),.list (.list (.int .i64))] λi=>
 Nat.casesOn (motive:=λ_=>List Cd) i [.int .i64,.int .i64,.int .i64,.int .i64,.int .i64] λi=>
 Nat.casesOn (motive:=λ_=>List Cd) i [.int .i64,.int .i64,.int .i64] λi=>
 Nat.casesOn (motive:=λ_=>List Cd) i [.int .i64,.int .i64,.int .i64,.int .i64,.int .i64,.int .i64] λi=>
 Nat.casesOn (motive:=λ_=>List Cd) i [.int .i64,.list (.st 17),.list (.st 18)] λi=>
 Nat.casesOn (motive:=λ_=>List Cd) i [.list .str,.list .str,.list (.st 0),.list (.st 1),.int .i64,.list (.st 3),.list (.st 5),.list (.st 7),.list (.st 8),.list (.st 9),.list (.st 10),.list (.st 11),.int .i64,.list (.st 17),.list (.st 18),.list (.int .i64),.bool,.list (.int .i64),.list (.int .i64),.int .i64,.list (.st 16)] λi=>
 Nat.casesOn (motive:=λ_=>List Cd) i [.list (.int .i64),.bool] λi=>
 Nat.casesOn (motive:=λ_=>List Cd) i [.list .str,.list .str,.list (.st 0),.list (.st 1),.list (.list (.int .i64)),.list (.list (.int .i64)),.list (.list (.int .i64))] λi=>
 Nat.casesOn (motive:=λ_=>List Cd) i [.list (.list .str)] λi=>
 Nat.casesOn (motive:=λ_=>List Cd) i [.str,.int .i64,.int .i64] λi=>
 Nat.casesOn (motive:=λ_=>List Cd) i [.list .str,.list .str,.list (.st 0),.list (.st 1),.int .i64,.list (.st 3),.list (.st 5),.list (.st 7),.list (.st 8),.list (.st 9),.list (.st 10),.list (.st 11),.bool,.list .str,.int .i64] λi=>
 Nat.casesOn (motive:=λ_=>List Cd) i [.int .i64,.int .i64,.int .i64] λi=>
 Nat.casesOn (motive:=λ_=>List Cd) i [.int .i64,.int .i64,.int .i64,.int .i64] λi=>
 Nat.casesOn (motive:=λ_=>List Cd) i [.list .str,.list .str,.list (.st 0),.list (.st 1),.int .i64,.list (.st 3),.list (.st 5),.list (.st 7),.list (.st 8),.list (.st 9),.list (.st 10),.list (.st 11),.list (.int .i64),.list (.list (.st 26)),.list (.int .i64),.list (.st 27),.int .i64,.list (.st 17),.list (.st 18)] λi=>
 Nat.casesOn (motive:=λ_=>List Cd) i [.int .i64,.int .i64] λi=>
 Nat.casesOn (motive:=λ_=>List Cd) i [.int .i64,.int .i64] λi=>
 Nat.casesOn (motive:=λ_=>List Cd) i [.list (.int .i64),.list (.int .i64)] λi=>
 Nat.casesOn (motive:=λ_=>List Cd) i [.int .i64,.list (.st 17),.list (.st 18),.list (.list (.int .i64)),.list (.int .i64),.list (.int .i64),.list (.int .i64),.int .i64] λi=>
 Nat.casesOn (motive:=λ_=>List Cd) i [.int .i64,.int .i64] λi=>
 Nat.casesOn (motive:=λ_=>List Cd) i [.list (.int .i64),.int .i64] λi=>
 Nat.casesOn (motive:=λ_=>List Cd) i [.int .i64,.int .i64] λi=>
 Nat.casesOn (motive:=λ_=>List Cd) i [.int .i64,.list (.st 17),.list (.st 18),.list (.int .i64),.list (.list (.int .i64)),.list (.int .i64),.bool,.int .i64,.int .i64,.bool,.list (.int .i64),.int .i64,.bool] λi=>
 Nat.casesOn (motive:=λ_=>List Cd) i [.int .i64,.int .i64] λi=>
 Nat.casesOn (motive:=λ_=>List Cd) i [.list (.st 37),.int .i64] λi=>
 Nat.casesOn (motive:=λ_=>List Cd) i [.int .i64,.int .i64,.int .i64,.int .i64] λi=>
 Nat.casesOn (motive:=λ_=>List Cd) i [.int .i64,.int .i64] λi=>
 Nat.casesOn (motive:=λ_=>List Cd) i [.int .i64,.int .i64] λi=>
 []
def ZM:∀i,aK ZS (ZC i)->ZS i:=λi=>
 Nat.casesOn (motive:=λi=>aK ZS (ZC (i))->ZS (i)) i (λp:aK ZS (ZC 0)=>Section.mk p.1 p.2.1 p.2.2.1 p.2.2.2.1 p.2.2.2.2) λi=>
 Nat.casesOn (motive:=λi=>aK ZS (ZC (i+1))->ZS (i+1)) i (λp:aK ZS (ZC 1)=>Link.mk p.1 p.2.1 p.2.2.1 p.2.2.2.1 p.2.2.2.2.1 p.2.2.2.2.2) λi=>
 Nat.casesOn (motive:=λi=>aK ZS (ZC (i+2))->ZS (i+2)) i (λp:aK ZS (ZC 2)=>Layout.mk p.1 p.2.1 p.2.2.1 p.2.2.2) λi=>
 Nat.casesOn (motive:=λi=>aK ZS (ZC (i+3))->ZS (i+3)) i (λp:aK ZS (ZC 3)=>bO.mk p.1 p.2.1 p.2.2.1 p.2.2.2.1 p.2.2.2.2) λi=>
 Nat.casesOn (motive:=λi=>aK ZS (ZC (i+4))->ZS (i+4)) i (λp:aK ZS (ZC 4)=>Step.mk p.1 p.2) λi=>
 Nat.casesOn (motive:=λi=>aK ZS (ZC (i+5))->ZS (i+5)) i (λp:aK ZS (ZC 5)=>bg.mk p.1 p.2) λi=>
 Nat.casesOn (motive:=λi=>aK ZS (ZC (i+6))->ZS (i+6)) i (λp:aK ZS (ZC 6)=>gL.mk p.1 p.2.1 p.2.2.1 p.2.2.2) λi=>
 Nat.casesOn (motive:=λi=>aK ZS (ZC (i+7))->ZS (i+7)) i (λp:aK ZS (ZC 7)=>Line.mk p.1 p.2.1 p.2.2.1 p.2.2.2) λi=>
 Nat.casesOn (motive:=λi=>aK ZS (ZC (i+8))->ZS (i+8)) i (λp:aK ZS (ZC 8)=>Change.mk p.1 p.2.1 p.2.2.1 p.2.2.2.1 p.2.2.2.2.1 p.2.2.2.2.2.1 p.2.2.2.2.2.2) λi=>
 Nat.casesOn (motive:=λi=>aK ZS (ZC (i+9))->ZS (i+9)) i (λp:aK ZS (ZC 9)=>Turn.mk p.1 p.2.1 p.2.2.1 p.2.2.2) λi=>
 Nat.casesOn (motive:=λi=>aK ZS (ZC (i+10))->ZS (i+10)) i (λp:aK ZS (ZC 10)=>Sync.mk p.1 p.2.1 p.2.2.1 p.2.2.2.1 p.2.2.2.2) λi=>
 Nat.casesOn (motive:=λi=>aK ZS (ZC (i+11))->ZS (i+11)) i (λp:aK ZS (ZC 11)=>dG.mk p.1 p.2.1 p.2.2) λi=>
 Nat.casesOn (motive:=λi=>aK ZS (ZC (i+12))->ZS (i+12)) i (λp:aK ZS (ZC 12)=>Plan.mk p.1 p.2.1 p.2.2.1 p.2.2.2.1 p.2.2.2.2.1 p.2.2.2.2.2.1 p.2.2.2.2.2.2.1 p.2.2.2.2.2.2.2) λi=>
 Nat.casesOn (motive:=λi=>aK ZS (ZC (i+13))->ZS (i+13)) i (λp:aK ZS (ZC 13)=>mo.mk p.1 p.2.1 p.2.2) λi=>
 Nat.casesOn (motive:=λi=>aK ZS (ZC (i+14))->ZS (i+14)) i (λp:aK ZS (ZC 14)=>oG.mk p.1 p.2.1 p.2.2.1 p.2.2.2.1 p.2.2.2.2) λi=>
 Nat.casesOn (motive:=λi=>aK ZS (ZC (i+15))->ZS (i+15)) i (λp:aK ZS (ZC 15)=>iD.mk p.1 p.2) λi=>
 Nat.casesOn (motive:=λi=>aK ZS (ZC (i+16))->ZS (i+16)) i (λp:aK ZS (ZC 16)=>Use.mk p.1 p.2.1 p.2.2.1 p.2.2.2.1 p.2.2.2.2) λi=>
 Nat.casesOn (motive:=λi=>aK ZS (ZC (i+17))->ZS (i+17)) i (λp:aK ZS (ZC 17)=>Event.mk p.1 p.2.1 p.2.2) λi=>
 Nat.casesOn (motive:=λi=>aK ZS (ZC (i+18))->ZS (i+18)) i (λp:aK ZS (ZC 18)=>bE.mk p.1 p.2.1 p.2.2.1 p.2.2.2.1 p.2.2.2.2.1 p.2.2.2.2.2) λi=>
 Nat.casesOn (motive:=λi=>aK ZS (ZC (i+19))->ZS (i+19)) i (λp:aK ZS (ZC 19)=>Network.mk p.1 p.2.1 p.2.2) λi=>
 Nat.casesOn (motive:=λi=>aK ZS (ZC (i+20))->ZS (i+20)) i (λp:aK ZS (ZC 20)=>Vr.mk p.1 p.2.1 p.2.2.1 p.2.2.2.1 p.2.2.2.2.1 p.2.2.2.2.2.1 p.2.2.2.2.2.2.1 p.2.2.2.2.2.2.2.1 p.2.2.2.2.2.2.2.2.1 p.2.2.2.2.2.2.2.2.2.1 p.2.2.2.2.2.2.2.2.2.2.1 p.2.2.2.2.2.2.2.2.2.2.2.1 p.2.2.2.2.2.2.2.2.2.2.2.2.1 p.2.2.2.2.2.2.2.2.2.2.2.2.2.1 p.2.2.2.2.2.2.2.2.2.2.2.2.2.2.1 p.2.2.2.2.2.2.2.2.2.2.2.2.2.2.2.1 p.2.2.2.2.2.2.2.2.2.2.2.2.2.2.2.2.1 p.2.2.2.2.2.2.2.2.2.2.2.2.2.2.2.2.2.1 p.2.2.2.2.2.2.2.2.2.2.2.2.2.2.2.2.2.2.1 p.2.2.2.2.2.2.2.2.2.2.2.2.2.2.2.2.2.2.2.1 p.2.2.2.2.2.2.2.2.2.2.2.2.2.2.2.2.2.2.2.2) λi=>
 Nat.casesOn (motive:=λi=>aK ZS (ZC (i+21))->ZS (i+21)) i (λp:aK ZS (ZC 21)=>dO.mk p.1 p.2) λi=>
 Nat.casesOn (motive:=λi=>aK ZS (ZC (i+22))->ZS (i+22)) i (λp:aK ZS (ZC 22)=>Builder.mk p.1 p.2.1 p.2.2.1 p.2.2.2.1 p.2.2.2.2.1 p.2.2.2.2.2.1 p.2.2.2.2.2.2) λi=>
 Nat.casesOn (motive:=λi=>aK ZS (ZC (i+23))->ZS (i+23)) i (λp:aK ZS (ZC 23)=>Writer.mk p) λi=>
 Nat.casesOn (motive:=λi=>aK ZS (ZC (i+24))->ZS (i+24)) i (λp:aK ZS (ZC 24)=>Word.mk p.1 p.2.1 p.2.2) λi=>
 Nat.casesOn (motive:=λi=>aK ZS (ZC (i+25))->ZS (i+25)) i (λp:aK ZS (ZC 25)=>Reader.mk p.1 p.2.1 p.2.2.1 p.2.2.2.1 p.2.2.2.2.1 p.2.2.2.2.2.1 p.2.2.2.2.2.2.1 p.2.2.2.2.2.2.2.1 p.2.2.2.2.2.2.2.2.1 p.2.2.2.2.2.2.2.2.2.1 p.2.2.2.2.2.2.2.2.2.2.1 p.2.2.2.2.2.2.2.2.2.2.2.1 p.2.2.2.2.2.2.2.2.2.2.2.2.1 p.2.2.2.2.2.2.2.2.2.2.2.2.2.1 p.2.2.2.2.2.2.2.2.2.2.2.2.2.2) λi=>
 Nat.casesOn (motive:=λi=>aK ZS (ZC (i+26))->ZS (i+26)) i (λp:aK ZS (ZC 26)=>aV.mk p.1 p.2.1 p.2.2) λi=>
 Nat.casesOn (motive:=λi=>aK ZS (ZC (i+27))->ZS (i+27)) i (λp:aK ZS (ZC 27)=>Join.mk p.1 p.2.1 p.2.2.1 p.2.2.2) λi=>
 Nat.casesOn (motive:=λi=>aK ZS (ZC (i+28))->ZS (i+28)) i (λp:aK ZS (ZC 28)=>Vy.mk p.1 p.2.1 p.2.2.1 p.2.2.2.1 p.2.2.2.2.1 p.2.2.2.2.2.1 p.2.2.2.2.2.2.1 p.2.2.2.2.2.2.2.1 p.2.2.2.2.2.2.2.2.1 p.2.2.2.2.2.2.2.2.2.1 p.2.2.2.2.2.2.2.2.2.2.1 p.2.2.2.2.2.2.2.2.2.2.2.1 p.2.2.2.2.2.2.2.2.2.2.2.2.1 p.2.2.2.2.2.2.2.2.2.2.2.2.2.1 p.2.2.2.2.2.2.2.2.2.2.2.2.2.2.1 p.2.2.2.2.2.2.2.2.2.2.2.2.2.2.2.1 p.2.2.2.2.2.2.2.2.2.2.2.2.2.2.2.2.1 p.2.2.2.2.2.2.2.2.2.2.2.2.2.2.2.2.2.1 p.2.2.2.2.2.2.2.2.2.2.2.2.2.2.2.2.2.2) λi=>
 Nat.casesOn (motive:=λi=>aK ZS (ZC (i+29))->ZS (i+29)) i (λp:aK ZS (ZC 29)=>VK.mk p.1 p.2) λi=>
 Nat.casesOn (motive:=λi=>aK ZS (ZC (i+30))->ZS (i+30)) i (λp:aK ZS (ZC 30)=>dD.mk p.1 p.2) λi=>
 Nat.casesOn (motive:=λi=>aK ZS (ZC (i+31))->ZS (i+31)) i (λp:aK ZS (ZC 31)=>Cycle.mk p.1 p.2) λi=>
 Nat.casesOn (motive:=λi=>aK ZS (ZC (i+32))->ZS (i+32)) i (λp:aK ZS (ZC 32)=>Service.mk p.1 p.2.1 p.2.2.1 p.2.2.2.1 p.2.2.2.2.1 p.2.2.2.2.2.1 p.2.2.2.2.2.2.1 p.2.2.2.2.2.2.2) λi=>
 Nat.casesOn (motive:=λi=>aK ZS (ZC (i+33))->ZS (i+33)) i (λp:aK ZS (ZC 33)=>nZ.mk p.1 p.2) λi=>
 Nat.casesOn (motive:=λi=>aK ZS (ZC (i+34))->ZS (i+34)) i (λp:aK ZS (ZC 34)=>Source.mk p.1 p.2) λi=>
 Nat.casesOn (motive:=λi=>aK ZS (ZC (i+35))->ZS (i+35)) i (λp:aK ZS (ZC 35)=>Window.mk p.1 p.2) λi=>
 Nat.casesOn (motive:=λi=>aK ZS (ZC (i+36))->ZS (i+36)) i (λp:aK ZS (ZC 36)=>SearchState.mk p.1 p.2.1 p.2.2.1 p.2.2.2.1 p.2.2.2.2.1 p.2.2.2.2.2.1 p.2.2.2.2.2.2.1 p.2.2.2.2.2.2.2.1 p.2.2.2.2.2.2.2.2.1 p.2.2.2.2.2.2.2.2.2.1 p.2.2.2.2.2.2.2.2.2.2.1 p.2.2.2.2.2.2.2.2.2.2.2.1 p.2.2.2.2.2.2.2.2.2.2.2.2) λi=>
 Nat.casesOn (motive:=λi=>aK ZS (ZC (i+37))->ZS (i+37)) i (λp:aK ZS (ZC 37)=>Cell.mk p.1 p.2) λi=>
 Nat.casesOn (motive:=λi=>aK ZS (ZC (i+38))->ZS (i+38)) i (λp:aK ZS (ZC 38)=>vI.mk p.1 p.2) λi=>
 Nat.casesOn (motive:=λi=>aK ZS (ZC (i+39))->ZS (i+39)) i (λp:aK ZS (ZC 39)=>Hop.mk p.1 p.2.1 p.2.2.1 p.2.2.2) λi=>
 Nat.casesOn (motive:=λi=>aK ZS (ZC (i+40))->ZS (i+40)) i (λp:aK ZS (ZC 40)=>Span.mk p.1 p.2) λi=>
 Nat.casesOn (motive:=λi=>aK ZS (ZC (i+41))->ZS (i+41)) i (λp:aK ZS (ZC 41)=>yj.mk p.1 p.2) λi=>
 λ_=>()
def ZU:∀i,ZS i->aK ZS (ZC i):=λi=>
 Nat.casesOn (motive:=λi=>ZS (i)->aK ZS (ZC (i))) i (λx:Section=>(x.Name,x.Length,x.Limit,x.Vd,x.asl)) λi=>
 Nat.casesOn (motive:=λi=>ZS (i+1)->aK ZS (ZC (i+1))) i (λx:Link=>(x.A,x.ari,x.B,x.aro,x.Point,x.Pos)) λi=>
 Nat.casesOn (motive:=λi=>ZS (i+2)->aK ZS (ZC (i+2))) i (λx:Layout=>(x.VP,x.ase,x.Sections,x.Links)) λi=>
 Nat.casesOn (motive:=λi=>ZS (i+3)->aK ZS (ZC (i+3))) i (λx:bO=>(x.Name,x.Length,x.asj,x.arj,x.arp)) λi=>
 Nat.casesOn (motive:=λi=>ZS (i+4)->aK ZS (ZC (i+4))) i (λx:Step=>(x.Section,x.Dir)) λi=>
 Nat.casesOn (motive:=λi=>ZS (i+5)->aK ZS (ZC (i+5))) i (λx:bg=>(x.Steps,x.Overlap)) λi=>
 Nat.casesOn (motive:=λi=>ZS (i+6)->aK ZS (ZC (i+6))) i (λx:gL=>(x.bg,x.Extra,x.Min,x.Max)) λi=>
 Nat.casesOn (motive:=λi=>ZS (i+7)->aK ZS (ZC (i+7))) i (λx:Line=>(x.Name,x.bO,x.Weight,x.VI)) λi=>
 Nat.casesOn (motive:=λi=>ZS (i+8)->aK ZS (ZC (i+8))) i (λx:Change=>(x.arw,x.arx,x.asF,x.asG,x.Min,x.Max,x.Weight)) λi=>
 Nat.casesOn (motive:=λi=>ZS (i+9)->aK ZS (ZC (i+9))) i (λx:Turn=>(x.From,x.To,x.Min,x.Max)) λi=>
 Nat.casesOn (motive:=λi=>ZS (i+10)->aK ZS (ZC (i+10))) i (λx:Sync=>(x.ar2,x.asf,x.ar3,x.ash,x.Offset)) λi=>
 Nat.casesOn (motive:=λi=>ZS (i+11)->aK ZS (ZC (i+11))) i (λx:dG=>(x.From,x.To,x.Weight)) λi=>
 Nat.casesOn (motive:=λi=>ZS (i+12)->aK ZS (ZC (i+12))) i (λx:Plan=>(x.AA,x.asn,x.Routes,x.Lines,x.Changes,x.Turns,x.aso,x.aru)) λi=>
 Nat.casesOn (motive:=λi=>ZS (i+13)->aK ZS (ZC (i+13))) i (λx:mo=>(x.arq,x.ars,x.Times)) λi=>
 Nat.casesOn (motive:=λi=>ZS (i+14)->aK ZS (ZC (i+14))) i (λx:oG=>(x.AA,x.Times,x.U9,x.Bound,x.Parts)) λi=>
 Nat.casesOn (motive:=λi=>ZS (i+15)->aK ZS (ZC (i+15))) i (λx:iD=>(x.Set,x.asL)) λi=>
 Nat.casesOn (motive:=λi=>ZS (i+16)->aK ZS (ZC (i+16))) i (λx:Use=>(x.Resource,x.asJ,x.From,x.Len,x.arV)) λi=>
 Nat.casesOn (motive:=λi=>ZS (i+17)->aK ZS (ZC (i+17))) i (λx:Event=>(x.Kind,x.Line,x.gL)) λi=>
 Nat.casesOn (motive:=λi=>ZS (i+18)->aK ZS (ZC (i+18))) i (λx:bE=>(x.Kind,x.From,x.To,x.Min,x.Max,x.Weight)) λi=>
 Nat.casesOn (motive:=λi=>ZS (i+19)->aK ZS (ZC (i+19))) i (λx:Network=>(x.AA,x.Events,x.ark)) λi=>
 Nat.casesOn (motive:=λi=>ZS (i+20)->aK ZS (ZC (i+20))) i (λx:Vr=>(x.ar0,x.arY,x.arZ,x.arX,x.ar8,x.asa,x.ar9,x.ar7,x.ar5,x.asc,x.asb,x.ar6,x.Vx,x.Vw,x.Vv,x.Times,x.Moving,x.Turn,x.First,x.VI,x.Uses)) λi=>
 Nat.casesOn (motive:=λi=>ZS (i+21)->aK ZS (ZC (i+21))) i (λx:dO=>(x.Lines,x.Closed)) λi=>
 Nat.casesOn (motive:=λi=>ZS (i+22)->aK ZS (ZC (i+22))) i (λx:Builder=>(x.Ib,x.H9,x.Ia,x.H8,x.Tracks,x.Between,x.asK)) λi=>
 Nat.casesOn (motive:=λi=>ZS (i+23)->aK ZS (ZC (i+23))) i (λx:Writer=>x.Lines) λi=>
 Nat.casesOn (motive:=λi=>ZS (i+24)->aK ZS (ZC (i+24))) i (λx:Word=>(x.Text,x.Line,x.Col)) λi=>
 Nat.casesOn (motive:=λi=>ZS (i+25)->aK ZS (ZC (i+25))) i (λx:Reader=>(x.Ib,x.H9,x.Ia,x.H8,x.VD,x.VF,x.VE,x.VB,x.Vz,x.VH,x.VG,x.VA,x.AA,x.W,x.E)) λi=>
 Nat.casesOn (motive:=λi=>ZS (i+26)->aK ZS (ZC (i+26))) i (λx:aV=>(x.Resource,x.From,x.To)) λi=>
 Nat.casesOn (motive:=λi=>ZS (i+27)->aK ZS (ZC (i+27))) i (λx:Join=>(x.A,x.B,x.ar1,x.Most)) λi=>
 Nat.casesOn (motive:=λi=>ZS (i+28)->aK ZS (ZC (i+28))) i (λx:Vy=>(x.Ib,x.H9,x.Ia,x.H8,x.VD,x.VF,x.VE,x.VB,x.Vz,x.VH,x.VG,x.VA,x.First,x.ar4,x.Running,x.Joins,x.Vu,x.Vt,x.Vs)) λi=>
 Nat.casesOn (motive:=λi=>ZS (i+29)->aK ZS (ZC (i+29))) i (λx:VK=>(x.Left,x.Used)) λi=>
 Nat.casesOn (motive:=λi=>ZS (i+30)->aK ZS (ZC (i+30))) i (λx:dD=>(x.bE,x.Sign)) λi=>
 Nat.casesOn (motive:=λi=>ZS (i+31)->aK ZS (ZC (i+31))) i (λx:Cycle=>(x.arl,x.asi)) λi=>
 Nat.casesOn (motive:=λi=>ZS (i+32)->aK ZS (ZC (i+32))) i (λx:Service=>(x.Vx,x.Vw,x.Vv,x.Leaving,x.Duration,x.Start,x.Stop,x.VP)) λi=>
 Nat.casesOn (motive:=λi=>ZS (i+33)->aK ZS (ZC (i+33))) i (λx:nZ=>(x.Section,x.Side)) λi=>
 Nat.casesOn (motive:=λi=>ZS (i+34)->aK ZS (ZC (i+34))) i (λx:Source=>(x.L,x.I)) λi=>
 Nat.casesOn (motive:=λi=>ZS (i+35)->aK ZS (ZC (i+35))) i (λx:Window=>(x.Min,x.Max)) λi=>
 Nat.casesOn (motive:=λi=>ZS (i+36)->aK ZS (ZC (i+36))) i (λx:SearchState=>(x.Vu,x.Vt,x.Vs,x.Limit,x.Closing,x.Times,x.All,x.Budget,x.Used,x.Over,x.Result,x.U9,x.Found)) λi=>
 Nat.casesOn (motive:=λi=>ZS (i+37)->aK ZS (ZC (i+37))) i (λx:Cell=>(x.Limit,x.Vd)) λi=>
 Nat.casesOn (motive:=λi=>ZS (i+38)->aK ZS (ZC (i+38))) i (λx:vI=>(x.Cells,x.First)) λi=>
 Nat.casesOn (motive:=λi=>ZS (i+39)->aK ZS (ZC (i+39))) i (λx:Hop=>(x.asI,x.asH,x.Point,x.Pos)) λi=>
 Nat.casesOn (motive:=λi=>ZS (i+40)->aK ZS (ZC (i+40))) i (λx:Span=>(x.From,x.To)) λi=>
 Nat.casesOn (motive:=λi=>ZS (i+41)->aK ZS (ZC (i+41))) i (λx:yj=>(x.Section,x.Side)) λi=>
 λ_=>()
theorem ZUM:∀i p,ZU i (ZM i p)=p:=λi=>
 Nat.casesOn (motive:=λi=>∀p,ZU (i) (ZM (i) p)=p) i (λ_=>rfl) λi=>
 Nat.casesOn (motive:=λi=>∀p,ZU (i+1) (ZM (i+1) p)=p) i (λ_=>rfl) λi=>
 Nat.casesOn (motive:=λi=>∀p,ZU (i+2) (ZM (i+2) p)=p) i (λ_=>rfl) λi=>
 Nat.casesOn (motive:=λi=>∀p,ZU (i+3) (ZM (i+3) p)=p) i (λ_=>rfl) λi=>
 Nat.casesOn (motive:=λi=>∀p,ZU (i+4) (ZM (i+4) p)=p) i (λ_=>rfl) λi=>
 Nat.casesOn (motive:=λi=>∀p,ZU (i+5) (ZM (i+5) p)=p) i (λ_=>rfl) λi=>
 Nat.casesOn (motive:=λi=>∀p,ZU (i+6) (ZM (i+6) p)=p) i (λ_=>rfl) λi=>
 Nat.casesOn (motive:=λi=>∀p,ZU (i+7) (ZM (i+7) p)=p) i (λ_=>rfl) λi=>
 Nat.casesOn (motive:=λi=>∀p,ZU (i+8) (ZM (i+8) p)=p) i (λ_=>rfl) λi=>
 Nat.casesOn (motive:=λi=>∀p,ZU (i+9) (ZM (i+9) p)=p) i (λ_=>rfl) λi=>
 Nat.casesOn (motive:=λi=>∀p,ZU (i+10) (ZM (i+10) p)=p) i (λ_=>rfl) λi=>
 Nat.casesOn (motive:=λi=>∀p,ZU (i+11) (ZM (i+11) p)=p) i (λ_=>rfl) λi=>
 Nat.casesOn (motive:=λi=>∀p,ZU (i+12) (ZM (i+12) p)=p) i (λ_=>rfl) λi=>
 Nat.casesOn (motive:=λi=>∀p,ZU (i+13) (ZM (i+13) p)=p) i (λ_=>rfl) λi=>
 Nat.casesOn (motive:=λi=>∀p,ZU (i+14) (ZM (i+14) p)=p) i (λ_=>rfl) λi=>
 Nat.casesOn (motive:=λi=>∀p,ZU (i+15) (ZM (i+15) p)=p) i (λ_=>rfl) λi=>
 Nat.casesOn (motive:=λi=>∀p,ZU (i+16) (ZM (i+16) p)=p) i (λ_=>rfl) λi=>
 Nat.casesOn (motive:=λi=>∀p,ZU (i+17) (ZM (i+17) p)=p) i (λ_=>rfl) λi=>
 Nat.casesOn (motive:=λi=>∀p,ZU (i+18) (ZM (i+18) p)=p) i (λ_=>rfl) λi=>
 Nat.casesOn (motive:=λi=>∀p,ZU (i+19) (ZM (i+19) p)=p) i (λ_=>rfl) λi=>
 Nat.casesOn (motive:=λi=>∀p,ZU (i+20) (ZM (i+20) p)=p) i (λ_=>rfl) λi=>
 Nat.casesOn (motive:=λi=>∀p,ZU (i+21) (ZM (i+21) p)=p) i (λ_=>rfl) λi=>
 Nat.casesOn (motive:=λi=>∀p,ZU (i+22) (ZM (i+22) p)=p) i (λ_=>rfl) λi=>
 Nat.casesOn (motive:=λi=>∀p,ZU (i+23) (ZM (i+23) p)=p) i (λ_=>rfl) λi=>
 Nat.casesOn (motive:=λi=>∀p,ZU (i+24) (ZM (i+24) p)=p) i (λ_=>rfl) λi=>
 Nat.casesOn (motive:=λi=>∀p,ZU (i+25) (ZM (i+25) p)=p) i (λ_=>rfl) λi=>
 Nat.casesOn (motive:=λi=>∀p,ZU (i+26) (ZM (i+26) p)=p) i (λ_=>rfl) λi=>
 Nat.casesOn (motive:=λi=>∀p,ZU (i+27) (ZM (i+27) p)=p) i (λ_=>rfl) λi=>
 Nat.casesOn (motive:=λi=>∀p,ZU (i+28) (ZM (i+28) p)=p) i (λ_=>rfl) λi=>
 Nat.casesOn (motive:=λi=>∀p,ZU (i+29) (ZM (i+29) p)=p) i (λ_=>rfl) λi=>
 Nat.casesOn (motive:=λi=>∀p,ZU (i+30) (ZM (i+30) p)=p) i (λ_=>rfl) λi=>
 Nat.casesOn (motive:=λi=>∀p,ZU (i+31) (ZM (i+31) p)=p) i (λ_=>rfl) λi=>
 Nat.casesOn (motive:=λi=>∀p,ZU (i+32) (ZM (i+32) p)=p) i (λ_=>rfl) λi=>
 Nat.casesOn (motive:=λi=>∀p,ZU (i+33) (ZM (i+33) p)=p) i (λ_=>rfl) λi=>
 Nat.casesOn (motive:=λi=>∀p,ZU (i+34) (ZM (i+34) p)=p) i (λ_=>rfl) λi=>
 Nat.casesOn (motive:=λi=>∀p,ZU (i+35) (ZM (i+35) p)=p) i (λ_=>rfl) λi=>
 Nat.casesOn (motive:=λi=>∀p,ZU (i+36) (ZM (i+36) p)=p) i (λ_=>rfl) λi=>
 Nat.casesOn (motive:=λi=>∀p,ZU (i+37) (ZM (i+37) p)=p) i (λ_=>rfl) λi=>
 Nat.casesOn (motive:=λi=>∀p,ZU (i+38) (ZM (i+38) p)=p) i (λ_=>rfl) λi=>
 Nat.casesOn (motive:=λi=>∀p,ZU (i+39) (ZM (i+39) p)=p) i (λ_=>rfl) λi=>
 Nat.casesOn (motive:=λi=>∀p,ZU (i+40) (ZM (i+40) p)=p) i (λ_=>rfl) λi=>
 Nat.casesOn (motive:=λi=>∀p,ZU (i+41) (ZM (i+41) p)=p) i (λ_=>rfl) λi=>
 λ_=>rfl
def Zgm:Nat->Option (List Value)|0=>some [.string ⟨#[65]⟩,.string ⟨#[66]⟩]|1=>some [.int .u64 1,.int .u64 10,.int .u64 100,.int .u64 1000,.int .u64 10000,.int .u64 100000,.int .u64 1000000,.int .u64 10000000,.int .u64 100000000,.int .u64 1000000000,.int .u64 10000000000,.int .u64 100000000000,.int .u64 1000000000000,.int .u64 10000000000000,.int .u64 100000000000000,.int .u64 1000000000000000,.int .u64 10000000000000000,.int .u64 100000000000000000,.int .u64 1000000000000000000,.int .u64 10000000000000000000]|_=>none
abbrev Zτ:Tb:=⟨ZS,ZC,ZM,ZU,ZUM,9,3,Zgm,(λg=>Nat.beq g 4),278,5⟩
def Zcd:TypeId->Option Cd|2=>some (.int .i64)|3=>some (.int .i64)|4=>some .bool|5=>some (.int .u8)|6=>some (.int .u8)|9=>some .str|12=>some (.int .u64)|20=>some .any|21=>some (.int .i32)|22=>some (.list (.int .i64))|23=>some (.list .str)|24=>some (.list (.st 0))|25=>some (.list (.st 1))|27=>some (.st 2)|28=>some (.list (.st 3))|29=>some (.list (.st 5))|30=>some (.list (.st 7))|31=>some (.list (.st 8))|32=>some (.list (.st 9))|33=>some (.list (.st 10))|34=>some (.list (.st 11))|36=>some (.st 12)|37=>some (.list (.st 13))|39=>some (.st 14)|43=>some (.list (.st 16))|44=>some (.int .i64)|55=>some (.list (.list (.int .i64)))|57=>some (.st 15)|60=>some (.list (.st 26))|63=>some (.list (.st 4))|65=>some (.st 5)|67=>some (.st 3)|72=>some (.int .u64)|76=>some (.st 16)|88=>some (.list (.st 17))|89=>some (.list (.st 18))|91=>some (.st 19)|98=>some (.list (.st 31))|109=>some (.st 11)|118=>some (.st 20)|119=>some (.list (.st 6))|121=>some (.st 7)|122=>some (.list (.st 21))|125=>some (.st 21)|131=>some (.st 0)|143=>some (.st 22)|146=>some (.st 8)|149=>some (.st 10)|152=>some (.list (.list .str))|154=>some (.st 23)|158=>some (.st 6)|161=>some (.st 9)|165=>some (.st 1)|167=>some (.list (.list (.st 24)))|170=>some (.list (.st 24))|174=>some (.st 24)|177=>some (.st 25)|180=>some (.list (.list (.st 26)))|181=>some (.list (.st 27))|183=>some (.st 28)|191=>some (.st 29)|194=>some (.list .bool)|197=>some (.list (.list (.st 30)))|200=>some (.st 18)|203=>some (.list (.st 30))|206=>some (.st 30)|209=>some (.st 31)|211=>some (.list (.int .i64))|217=>some (.st 13)|221=>some (.st 26)|222=>some (.list (.st 26))|225=>some (.st 4)|230=>some (.st 32)|232=>some (.st 17)|241=>some (.list (.list (.st 1)))|244=>some (.st 33)|252=>some (.int .i64)|259=>some (.int .u32)|261=>some (.int .u64)|263=>some (.st 34)|273=>some (.list .any)|276=>some (.list (.int .u8))|298=>some (.st 27)|304=>some (.list (.st 35))|309=>some (.st 35)|314=>some (.st 36)|324=>some (.list (.st 37))|326=>some (.st 38)|334=>some (.list (.st 39))|337=>some (.st 39)|340=>some (.int .u64)|375=>some (.list (.st 40))|380=>some (.st 40)|418=>some (.st 37)|439=>some (.st 41)|448=>some (.list (.list (.st 40)))|473=>some (.int .u8)|474=>some (.int .u8)|476=>some (.int .i32)|477=>some (.int .i32)|_=>none
def Zrj:Nat->Option Nat|7=>some 3|_=>none
noncomputable abbrev Z:Cf:=⟨Tryz.prog,Zτ,Zcd,false,Zrj⟩
noncomputable abbrev ZA:Cf:=⟨Tryz.prog,Zτ,Zcd,true,Zrj⟩
end Go.Z

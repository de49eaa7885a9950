/- Models of functions, and that the code computes them. -/
import Derived.Test.YtcalibhfgdncaaaGreatDoorTypes
set_option linter.all false
namespace Go.Proofs.YtcalibhfgdncaaaGreatDoor
open Go.Dc Go.RowKit
set_option maxRecDepth 10000
def zJ(r0:bO)(i0:Int):Option Str:=
 if decide ((r0.w.length:Int)≤i0) then
  (some (⟨[]⟩:Str))
 else
  ((idx r0.w i0).bind fun x2=>
  some x2)
theorem Fp(S:bB)(w:World)(bE:Nat)(r0:bO)(aj:ak.R bO)(i0:Int)(y:Str)(hM:zJ r0 i0=some y)(hS:sB S w)(aj5:S bE∧w.heap[bE]?=some (.cells (kW r0 aj).toArray 104 (0,0)))(uT:ak.ok S w aj r0):
   Calls Tryz.prog 103 #[vP bE,vI i0] w (cu w (.string y.ba)):=by
 refine bP (args:=[_,_]) Tryz.func103 rfl ((pre_nil hS).start |>.mW aj5|>.lS uT.1|>.oC uT.2.1|>.bU (α:=List Str) (r:=aj.2.2) (x:=r0.w) uT.2.2) rfl ?_;unfold zJ at hM;refine bD ?_;refine aG fun K2 hK2=>?_;refine aO ?_;refine om ?_;refine oe bY ?_;refine oe (aD 13) ?_;refine oe (rY (b:=bE)) ?_;refine oe bJ ?_;refine oe jf ?_;refine on ?_;refine cc rfl hM (fun hc1 hM=>?_) (fun hc1 hM=>?_)
 ·refine bD ?_;exact aW (bN hM)
 refine aX (hK2 _ _ ?_);clear hK2;refine aO ?_;refine oe bY ?_;refine oe (aD 13) ?_;refine oe (rY (b:=bE)) ?_;refine om ?_;obtain⟨x2,hx3,hM⟩:=bind_some hM;refine oe (bI (xs:=r0.w) 1 (kG r0.w aj.2.2) (iS hx3)) ?_;refine oe (dh (i:=i0) (xs:=r0.w) (y:=x2) 0 (kG r0.w aj.2.2) (fun _=>hx3)) ?_;refine aP ?_;exact aW (bN hM)
def xO(r0:bO)(ok0:Bool):Option Int:=
 if (!ok0) then
  (some 2)
 else
  (some r0.e)
theorem Cu(S:bB)(w:World)(bE:Nat)(r0:bO)(aj:ak.R bO)(ok0:Bool)(y:Int)(hM:xO r0 ok0=some y)(hP:Pre S [own bE 104 (kW r0 aj),ah 71 aj.2.1.1 r0.p.aU,ah 90 aj.2.1.2.1 r0.p.Routes,dJ (fun _=>True) 56 58 aj.2.1.2.2.1 r0.p.Lines,ah 79 aj.2.1.2.2.2.1 r0.p.Changes,ah 94 aj.2.1.2.2.2.2.1 r0.p.Turns,ah 84 aj.2.1.2.2.2.2.2.1 r0.p.bq,ah 86 aj.2.1.2.2.2.2.2.2 r0.p.bg,ah 9 aj.2.2 r0.w] w)(qy:ak.ok (α:=List Str) S w aj.1.1 r0.l.aM)(qz:ak.ok (α:=List Str) S w aj.1.2.1 r0.l.aV)(qA:ak.ok (α:=List Section) S w aj.1.2.2.1 r0.l.Sections)(qB:ak.ok (α:=List Link) S w aj.1.2.2.2 r0.l.Links):
   Calls Tryz.prog 102 #[vP bE,.bool ok0] w (Post (β:=Unit) S [own bE 104 (kW r0 aj),ah 71 aj.2.1.1 r0.p.aU,ah 90 aj.2.1.2.1 r0.p.Routes,dJ (fun _=>True) 56 58 aj.2.1.2.2.1 r0.p.Lines,ah 79 aj.2.1.2.2.2.1 r0.p.Changes,ah 94 aj.2.1.2.2.2.2.1 r0.p.Turns,ah 84 aj.2.1.2.2.2.2.2.1 r0.p.bq,ah 86 aj.2.1.2.2.2.2.2.2 r0.p.bg,ah 9 aj.2.2 r0.w] (fun g=> .tuple #[]) (fun g=>[own bE 104 [sL aj.1.1 r0.l.aM,sL aj.1.2.1 r0.l.aV,sL aj.1.2.2.1 r0.l.Sections,sL aj.1.2.2.2 r0.l.Links,vI r0.p.bR,sL aj.2.1.1 r0.p.aU,sL aj.2.1.2.1 r0.p.Routes,sL aj.2.1.2.2.1 r0.p.Lines,sL aj.2.1.2.2.2.1 r0.p.Changes,sL aj.2.1.2.2.2.2.1 r0.p.Turns,sL aj.2.1.2.2.2.2.2.1 r0.p.bq,sL aj.2.1.2.2.2.2.2.2 r0.p.bg,.bool r0.period,sL aj.2.2 r0.w,vI y],ah 71 aj.2.1.1 r0.p.aU,ah 90 aj.2.1.2.1 r0.p.Routes,dJ (fun _=>True) 56 58 aj.2.1.2.2.1 r0.p.Lines,ah 79 aj.2.1.2.2.2.1 r0.p.Changes,ah 94 aj.2.1.2.2.2.2.1 r0.p.Turns,ah 84 aj.2.1.2.2.2.2.2.1 r0.p.bq,ah 86 aj.2.1.2.2.2.2.2.2 r0.p.bg,ah 9 aj.2.2 r0.w]) w):=by
 refine bP (args:=[_,_]) Tryz.func102 rfl (hP.start |>.bU (α:=List Str) (r:=aj.1.1) (x:=r0.l.aM) qy|>.bU (α:=List Str) (r:=aj.1.2.1) (x:=r0.l.aV) qz|>.bU (α:=List Section) (r:=aj.1.2.2.1) (x:=r0.l.Sections) qA|>.bU (α:=List Link) (r:=aj.1.2.2.2) (x:=r0.l.Links) qB) rfl ?_;unfold xO at hM;refine aO ?_;refine oe fF ?_;refine on ?_;refine cc rfl hM (fun hc1 hM=>?_) (fun hc1 hM=>?_)
 ·refine aZ ?_;refine om ?_;refine oe bY ?_;refine oe (aD 14) ?_;refine bn (fP (b:=bE) (l':=[sL aj.1.1 r0.l.aM,sL aj.1.2.1 r0.l.aV,sL aj.1.2.2.1 r0.l.Sections,sL aj.1.2.2.2 r0.l.Links,vI r0.p.bR,sL aj.2.1.1 r0.p.aU,sL aj.2.1.2.1 r0.p.Routes,sL aj.2.1.2.2.1 r0.p.Lines,sL aj.2.1.2.2.2.1 r0.p.Changes,sL aj.2.1.2.2.2.2.1 r0.p.Turns,sL aj.2.1.2.2.2.2.2.1 r0.p.bq,sL aj.2.1.2.2.2.2.2.2 r0.p.bg,.bool r0.period,sL aj.2.2 r0.w,vI 2]) (k:=?_));obtain rfl:=some_inj hM;refine bf (yG rfl (fun w hm=>dO () hm rfl))
 obtain rfl:=some_inj hM;refine aX (yG rfl (fun w hm=>dO () hm rfl))
def RA(i0:Int):Int→Option (Int×Int):=fun sM=>
 some (i0,sM)
def G9(r0:bO)(i0:Int):Option (Int×Int):=
 if (decide (i0<0)&&decide (r0.e=0)) then
  (RA i0 3)
 else
  (RA i0 r0.e)
theorem VA(S:bB)(w:World)(bE:Nat)(r0:bO)(aj:ak.R bO)(i0:Int)(y:Int×Int)(hM:G9 r0 i0=some y)(hP:Pre S [own bE 104 (kW r0 aj),ah 71 aj.2.1.1 r0.p.aU,ah 90 aj.2.1.2.1 r0.p.Routes,dJ (fun _=>True) 56 58 aj.2.1.2.2.1 r0.p.Lines,ah 79 aj.2.1.2.2.2.1 r0.p.Changes,ah 94 aj.2.1.2.2.2.2.1 r0.p.Turns,ah 84 aj.2.1.2.2.2.2.2.1 r0.p.bq,ah 86 aj.2.1.2.2.2.2.2.2 r0.p.bg,ah 9 aj.2.2 r0.w] w)(qy:ak.ok (α:=List Str) S w aj.1.1 r0.l.aM)(qz:ak.ok (α:=List Str) S w aj.1.2.1 r0.l.aV)(qA:ak.ok (α:=List Section) S w aj.1.2.2.1 r0.l.Sections)(qB:ak.ok (α:=List Link) S w aj.1.2.2.2 r0.l.Links):
   Calls Tryz.prog 158 #[vP bE,vI i0] w (Post (β:=Unit) S [own bE 104 (kW r0 aj),ah 71 aj.2.1.1 r0.p.aU,ah 90 aj.2.1.2.1 r0.p.Routes,dJ (fun _=>True) 56 58 aj.2.1.2.2.1 r0.p.Lines,ah 79 aj.2.1.2.2.2.1 r0.p.Changes,ah 94 aj.2.1.2.2.2.2.1 r0.p.Turns,ah 84 aj.2.1.2.2.2.2.2.1 r0.p.bq,ah 86 aj.2.1.2.2.2.2.2.2 r0.p.bg,ah 9 aj.2.2 r0.w] (fun g=>vI y.1) (fun g=>[own bE 104 [sL aj.1.1 r0.l.aM,sL aj.1.2.1 r0.l.aV,sL aj.1.2.2.1 r0.l.Sections,sL aj.1.2.2.2 r0.l.Links,vI r0.p.bR,sL aj.2.1.1 r0.p.aU,sL aj.2.1.2.1 r0.p.Routes,sL aj.2.1.2.2.1 r0.p.Lines,sL aj.2.1.2.2.2.1 r0.p.Changes,sL aj.2.1.2.2.2.2.1 r0.p.Turns,sL aj.2.1.2.2.2.2.2.1 r0.p.bq,sL aj.2.1.2.2.2.2.2.2 r0.p.bg,.bool r0.period,sL aj.2.2 r0.w,vI y.2],ah 71 aj.2.1.1 r0.p.aU,ah 90 aj.2.1.2.1 r0.p.Routes,dJ (fun _=>True) 56 58 aj.2.1.2.2.1 r0.p.Lines,ah 79 aj.2.1.2.2.2.1 r0.p.Changes,ah 94 aj.2.1.2.2.2.2.1 r0.p.Turns,ah 84 aj.2.1.2.2.2.2.2.1 r0.p.bq,ah 86 aj.2.1.2.2.2.2.2.2 r0.p.bg,ah 9 aj.2.2 r0.w]) w):=by
 refine bP (args:=[_,_]) Tryz.func158 rfl (hP.start |>.bU (α:=List Str) (r:=aj.1.1) (x:=r0.l.aM) qy|>.bU (α:=List Str) (r:=aj.1.2.1) (x:=r0.l.aV) qz|>.bU (α:=List Section) (r:=aj.1.2.2.1) (x:=r0.l.Sections) qA|>.bU (α:=List Link) (r:=aj.1.2.2.2) (x:=r0.l.Links) qB) rfl ?_;unfold G9 at hM;refine bD ?_;refine jm y (k:=RA i0) (fun sM=>[(1,eI i0)]) (fun sM=>[iL r0.l.aM aj.1.1,iL r0.l.aV aj.1.2.1,iL r0.l.Sections aj.1.2.2.1,iL r0.l.Links aj.1.2.2.2,ah 71 aj.2.1.1 r0.p.aU,ah 90 aj.2.1.2.1 r0.p.Routes,dJ (fun _=>True) 56 58 aj.2.1.2.2.1 r0.p.Lines,ah 79 aj.2.1.2.2.2.1 r0.p.Changes,ah 94 aj.2.1.2.2.2.2.1 r0.p.Turns,ah 84 aj.2.1.2.2.2.2.2.1 r0.p.bq,ah 86 aj.2.1.2.2.2.2.2.2 r0.p.bg,ah 9 aj.2.2 r0.w,own bE 104 [sL aj.1.1 r0.l.aM,sL aj.1.2.1 r0.l.aV,sL aj.1.2.2.1 r0.l.Sections,sL aj.1.2.2.2 r0.l.Links,vI r0.p.bR,sL aj.2.1.1 r0.p.aU,sL aj.2.1.2.1 r0.p.Routes,sL aj.2.1.2.2.1 r0.p.Lines,sL aj.2.1.2.2.2.1 r0.p.Changes,sL aj.2.1.2.2.2.2.1 r0.p.Turns,sL aj.2.1.2.2.2.2.2.1 r0.p.bq,sL aj.2.1.2.2.2.2.2.2 r0.p.bg,.bool r0.period,sL aj.2.2 r0.w,vI sM]]) ?_ ?_
 ·intro wX fB;refine aO ?_;refine oe cO ?_;refine om ?_;refine av rfl aH ?_;refine av rfl bY ?_;refine av rfl (aD 14) ?_;refine av rfl (aJ (b:=bE)) ?_;refine av rfl eu ?_;refine oe dI ?_;refine on ?_;refine cc rfl hM (fun hc1 hM=>?_) (fun hc1 hM=>?_)
  · refine aZ ?_;refine om ?_;refine oe bY ?_;refine oe (aD 14) ?_;refine bn (fP (b:=bE) (l':=[sL aj.1.1 r0.l.aM,sL aj.1.2.1 r0.l.aV,sL aj.1.2.2.1 r0.l.Sections,sL aj.1.2.2.2 r0.l.Links,vI r0.p.bR,sL aj.2.1.1 r0.p.aU,sL aj.2.1.2.1 r0.p.Routes,sL aj.2.1.2.2.1 r0.p.Lines,sL aj.2.1.2.2.2.1 r0.p.Changes,sL aj.2.1.2.2.2.2.1 r0.p.Turns,sL aj.2.1.2.2.2.2.2.1 r0.p.bq,sL aj.2.1.2.2.2.2.2.2 r0.p.bg,.bool r0.period,sL aj.2.2 r0.w,vI 3]) (k:=?_));refine bf (fB hM sS rI)
  refine aX (fB hM sS rI)
 clear hM;rintro sM hM;dsimp only[RA] at hM ⊢;refine aO ?_;refine aP ?_;obtain rfl:=some_inj hM;refine aW (jE (fun w hm=>dO () hm rfl))
def VD(s0:Section)(p0:bO)(p2:Int):Option Bool:=
 (zJ p0 p2).bind fun y2=>
 some (decide (s0.Name=y2))
theorem anQ(S:bB)(w:World)(s0:Section)(yA:Nat)(dK:Nat)(p0:bO)(au:ak.R bO)(yx:Nat)(p2:Int)(y:Bool)(hM:VD s0 p0 p2=some y)(hS:sB S w)(Pv:S yA∧w.heap[yA]?=some (.cells [vP dK].toArray 102 (0,0)))(BQ:S dK∧w.heap[dK]?=some (.cells (kW p0 au).toArray 104 (0,0)))(gI:ak.ok S w au p0)(Pq:S yx∧w.heap[yx]?=some (.cells [vI p2].toArray 3 (0,0))):
  Calls Tryz.prog 188 #[.agg (Ud s0),vP yA,vP yx] w (cu w (.bool y)):=by
 refine bP (args:=[_,_,_]) Tryz.func188 rfl ((pre_nil hS).start |>.mW Pv|>.mW BQ|>.lS gI.1|>.oC gI.2.1|>.bU (α:=List Str) (r:=au.2.2) (x:=p0.w) gI.2.2|>.mW Pq) rfl ?_;unfold VD at hM;refine sr ?_;refine oB (Co s0) fun b1=>?_;refine aP ?_;refine aG fun K2 hK2=>?_;refine iD _ (List.Sublist.refl _) ?_;refine ay 0 rfl (aD 0) ?_;refine ay 1 rfl (aJ (b:=b1)) ?_
 refine ay 2 rfl (rY (b:=yA)) ?_;refine ay 3 rfl (rY (b:=yx)) ?_;obtain⟨y2,hy3,hM⟩:=bind_some hM;refine eD 4 rfl (sV (fun hs=>Fp _ _ dK p0 au p2 y2 hy3 (bC hs) (tF hA hs) ⟨⟨(kM hs),(kM hs),(kM hs),(kM hs)⟩,⟨(kM hs),(kM hs),(kM hs),(kM hs),(kM hs),(kM hs),(kM hs)⟩,(kM hs)⟩) ⟨rI,?_⟩);refine ay 5 rfl mF ?_;refine ay 6 rfl dx ?_;refine dY (hK2 _ _ ?_);clear hK2;exact aW (bN hM)
def agw:Unit→Option Int:=fun _=>
 some (-1)
def Wz(s0:List Section)(cZ:bO)(oK:Int)(aY:Nat→Option Int):Nat→Option Int:=fun eY=>
 if decide ((eY:Int)<(s0.length:Int)) then
  ((idx s0 (eY:Int)).bind fun x3=>
  (VD x3 cZ oK).bind fun y5=>
  if y5 then
   (some (eY:Int))
  else
   (aY (eY+1)))
 else
  (agw ())
def WA(s0:List Section)(cZ:bO)(oK:Int):Option Int:=
 iter (Wz s0 cZ oK) FUEL 0
theorem apm(S:bB)(w:World)(s0:List Section)(bK:ak.R (List Section))(ql:Nat)(gB:Nat)(cZ:bO)(fU:ak.R bO)(qj:Nat)(oK:Int)(y:Int)(hM:WA s0 cZ oK=some y)(hS:sB S w)(sU:ak.ok S w bK s0)(Pt:S ql∧w.heap[ql]?=some (.cells [vP gB].toArray 102 (0,0)))(uU:S gB∧w.heap[gB]?=some (.cells (kW cZ fU).toArray 104 (0,0)))(xw:ak.ok S w fU cZ)(Pp:S qj∧w.heap[qj]?=some (.cells [vI oK].toArray 3 (0,0))):
   Calls Tryz.prog 187 #[sL bK s0,.func (.func 188) #[] #[vP ql,vP qj]] w (cu w (vI y)):=by
 refine bP (args:=[_,_]) Tryz.func187 rfl ((pre_nil hS).start |>.bU (α:=List Section) (r:=bK) (x:=s0) sU|>.mW Pt|>.mW uU|>.lS xw.1|>.oC xw.2.1|>.bU (α:=List Str) (r:=fU.2.2) (x:=cZ.w) xw.2.2|>.mW Pp) rfl ?_;unfold WA at hM;refine bD ?_;refine aG fun K2 hK2=>?_;refine aO ?_;refine iO (fun w hm=>Kn.len (kG s0 bK) hm) fun hl1=>?_
 refine oe bJ ?_;refine om ?_;refine on ?_;refine bF ?_;refine lq hM (fun eY=>[(0,eS bK s0),(1,.v (.func (.func 188) #[] #[vP ql,vP qj])),(7,eI (s0.length:Int)),(8,eI (eY:Int))]) (fun eY=>[iL s0 bK,iL cZ.l.aM fU.1.1,iL cZ.l.aV fU.1.2.1,iL cZ.l.Sections fU.1.2.2.1,iL cZ.l.Links fU.1.2.2.2,iL cZ.p.aU fU.2.1.1,iL cZ.p.Routes fU.2.1.2.1,iL cZ.p.Lines fU.2.1.2.2.1,iL cZ.p.Changes fU.2.1.2.2.2.1,iL cZ.p.Turns fU.2.1.2.2.2.2.1,iL cZ.p.bq fU.2.1.2.2.2.2.2.1,iL cZ.p.bg fU.2.1.2.2.2.2.2.2,iL cZ.w fU.2.2,jh gB 104 (kW cZ fU),jh ql 102 [vP gB],jh qj 3 [vI oK]]) sS rI ?_
 clear hM;rintro aY eY hM gu hL1;dsimp only[Wz] at hM ⊢;refine sr ?_;refine oe cO ?_;refine on ?_;refine aG fun K5 bS=>?_;refine cc rfl hM (fun hc2 hM=>?_) (fun hc2 hM=>?_)
 ·have GH:=of_decide_eq_true hc2;refine aX (bS _ _ ?_);clear bS;refine aG fun K6 bZ=>?_;refine bF ?_;refine aO ?_;refine aP ?_;refine aO ?_;refine om ?_;refine om ?_;obtain⟨x3,hx4,hM⟩:=bind_some hM;refine oe (bI (xs:=s0) 5 (kG s0 bK) (iS hx4)) ?_;refine oe (fO (m:=5) (i:=(eY:Int)) (xs:=s0) (y:=x3) (l:=(Co x3)) 0 (kG s0 bK) (fun _=>hx4)) ?_;obtain⟨y5,kU,hM⟩:=bind_some hM;refine bn (Ky (vs:=[.agg (Ud x3)]) (cap:=[vP ql,vP qj]) (fun w hm=>let ⟨S,hs⟩:=hm;anQ _ w x3 ql gB cZ fU qj oK y5 kU (bC hs) (tF hA hs) (tF hA hs) ⟨⟨(kM hs),(kM hs),(kM hs),(kM hs)⟩,⟨(kM hs),(kM hs),(kM hs),(kM hs),(kM hs),(kM hs),(kM hs)⟩,(kM hs)⟩ (tF hA hs)) ?_);refine on ?_;refine cc rfl hM (fun jR hM=>?_) (fun jR hM=>?_)
  · refine aO ?_;refine aP ?_;exact aW (bN hM)
  refine aX (bZ _ _ ?_);clear bZ;refine aZ ?_;refine oe (dH (hr:=fun _=>by unfold d9;omega)) ?_;refine om ?_;refine bf (hL1 hM sS rI)
 refine dL (hK2 _ _ ?_);clear hK2;dsimp only[agw] at hM;refine bD ?_;exact aW (bN hM)
def RB(r0:bO)(i0:Int):Option (Int×Int):=
 (WA r0.l.Sections r0 i0).bind fun y3=>
 (G9 r0 y3).bind fun y5=>
 some (y5.1,y5.2)
theorem anR(S:bB)(w:World)(bE:Nat)(r0:bO)(aj:ak.R bO)(i0:Int)(y:Int×Int)(hM:RB r0 i0=some y)(hP:Pre S [own bE 104 (kW r0 aj),ah 71 aj.2.1.1 r0.p.aU,ah 90 aj.2.1.2.1 r0.p.Routes,dJ (fun _=>True) 56 58 aj.2.1.2.2.1 r0.p.Lines,ah 79 aj.2.1.2.2.2.1 r0.p.Changes,ah 94 aj.2.1.2.2.2.2.1 r0.p.Turns,ah 84 aj.2.1.2.2.2.2.2.1 r0.p.bq,ah 86 aj.2.1.2.2.2.2.2.2 r0.p.bg,ah 9 aj.2.2 r0.w] w)(qy:ak.ok (α:=List Str) S w aj.1.1 r0.l.aM)(qz:ak.ok (α:=List Str) S w aj.1.2.1 r0.l.aV)(qA:ak.ok (α:=List Section) S w aj.1.2.2.1 r0.l.Sections)(qB:ak.ok (α:=List Link) S w aj.1.2.2.2 r0.l.Links):
  Calls Tryz.prog 157 #[vP bE,vI i0] w (Post (β:=Unit) S [own bE 104 (kW r0 aj),ah 71 aj.2.1.1 r0.p.aU,ah 90 aj.2.1.2.1 r0.p.Routes,dJ (fun _=>True) 56 58 aj.2.1.2.2.1 r0.p.Lines,ah 79 aj.2.1.2.2.2.1 r0.p.Changes,ah 94 aj.2.1.2.2.2.2.1 r0.p.Turns,ah 84 aj.2.1.2.2.2.2.2.1 r0.p.bq,ah 86 aj.2.1.2.2.2.2.2.2 r0.p.bg,ah 9 aj.2.2 r0.w] (fun g=>vI y.1) (fun g=>[own bE 104 [sL aj.1.1 r0.l.aM,sL aj.1.2.1 r0.l.aV,sL aj.1.2.2.1 r0.l.Sections,sL aj.1.2.2.2 r0.l.Links,vI r0.p.bR,sL aj.2.1.1 r0.p.aU,sL aj.2.1.2.1 r0.p.Routes,sL aj.2.1.2.2.1 r0.p.Lines,sL aj.2.1.2.2.2.1 r0.p.Changes,sL aj.2.1.2.2.2.2.1 r0.p.Turns,sL aj.2.1.2.2.2.2.2.1 r0.p.bq,sL aj.2.1.2.2.2.2.2.2 r0.p.bg,.bool r0.period,sL aj.2.2 r0.w,vI y.2],ah 71 aj.2.1.1 r0.p.aU,ah 90 aj.2.1.2.1 r0.p.Routes,dJ (fun _=>True) 56 58 aj.2.1.2.2.1 r0.p.Lines,ah 79 aj.2.1.2.2.2.1 r0.p.Changes,ah 94 aj.2.1.2.2.2.2.1 r0.p.Turns,ah 84 aj.2.1.2.2.2.2.2.1 r0.p.bq,ah 86 aj.2.1.2.2.2.2.2.2 r0.p.bg,ah 9 aj.2.2 r0.w]) w):=by
 refine bP (args:=[_,_]) Tryz.func157 rfl (hP.start |>.bU (α:=List Str) (r:=aj.1.1) (x:=r0.l.aM) qy|>.bU (α:=List Str) (r:=aj.1.2.1) (x:=r0.l.aV) qz|>.bU (α:=List Section) (r:=aj.1.2.2.1) (x:=r0.l.Sections) qA|>.bU (α:=List Link) (r:=aj.1.2.2.2) (x:=r0.l.Links) qB) rfl ?_;unfold RB at hM;refine sr ?_;refine bn (D5 (h1:=rfl) (k:=fun b1=>?_));refine bn (D5 (h1:=rfl) (k:=fun b2=>?_));refine aP ?_;refine aG fun K2 hK2=>?_;refine OT [uF bE [(2,sL aj.1.2.2.1 r0.l.Sections)],own b2 3 [vI i0],own b1 102 [vP bE],iL r0.l.Links aj.1.2.2.2,iL r0.l.Sections aj.1.2.2.1,iL r0.l.aV aj.1.2.1,iL r0.l.aM aj.1.1,ah 71 aj.2.1.1 r0.p.aU,ah 90 aj.2.1.2.1 r0.p.Routes,dJ (fun _=>True) 56 58 aj.2.1.2.2.1 r0.p.Lines,ah 79 aj.2.1.2.2.2.1 r0.p.Changes,ah 94 aj.2.1.2.2.2.2.1 r0.p.Turns,ah 84 aj.2.1.2.2.2.2.2.1 r0.p.bq,ah 86 aj.2.1.2.2.2.2.2.2 r0.p.bg,ah 9 aj.2.2 r0.w] (pI) ?_;refine ay 0 rfl (aJ (b:=b1)) ?_;refine ay 1 rfl (aJ (b:=b1)) ?_;refine ay 2 rfl bY ?_;refine ay 3 rfl (aD 0) ?_;refine ay 4 rfl (aD 2) ?_
 refine ay 5 rfl (Au (b:=bE) (o:=2) (ps:=[(2,sL aj.1.2.2.1 r0.l.Sections)]) hA (by repeat (first|exact List.Mem.head _|apply List.Mem.tail))) ?_;refine ay 6 rfl Jg ?_;obtain⟨y3,hy4,hM⟩:=bind_some hM;refine eD 7 rfl (jO (fun w hm=>let ⟨S,hs⟩:=hm;apm _ w r0.l.Sections aj.1.2.2.1 b1 bE r0 aj b2 i0 y3 hy4 (bC hs) (kM hs) (uE hA hs) (uE hA hs) ⟨⟨(kM hs),(kM hs),(kM hs),(kM hs)⟩,⟨(kT hs),(kT hs),(Kn.lend (Kn.dJ (e:=56) (e2:=58) (r:=aj.2.1.2.2.1) hA) hs),(kT hs),(kT hs),(kT hs),(kT hs)⟩,(kT hs)⟩ (uE hA hs)) ⟨pI,?_⟩);obtain⟨y5,kU,hM⟩:=bind_some hM;refine eD 8 rfl (fq sA (fun S w hs hP=>VA _ w bE r0 aj y3 y5 kU hP (kI hs) (kI hs) (kI hs) (kI hs)) (fun r7=>⟨pI,?_⟩));dsimp only[cA,nA];refine ay 9 rfl dx ?_;refine dY (hK2 _ _ ?_);clear hK2;obtain rfl:=some_inj hM;refine aW (jE (fun w hm=>dO () hm rfl))
def VE(s0:bA)(p0:bO)(p2:Int):Option Bool:=
 (zJ p0 p2).bind fun y2=>
 some (decide (s0.Name=y2))
theorem anS(S:bB)(w:World)(s0:bA)(yA:Nat)(dK:Nat)(p0:bO)(au:ak.R bO)(yx:Nat)(p2:Int)(y:Bool)(hM:VE s0 p0 p2=some y)(hS:sB S w)(Pv:S yA∧w.heap[yA]?=some (.cells [vP dK].toArray 102 (0,0)))(BQ:S dK∧w.heap[dK]?=some (.cells (kW p0 au).toArray 104 (0,0)))(gI:ak.ok S w au p0)(Pq:S yx∧w.heap[yx]?=some (.cells [vI p2].toArray 3 (0,0))):
  Calls Tryz.prog 159 #[.agg (IZ s0),vP yA,vP yx] w (cu w (.bool y)):=by
 refine bP (args:=[_,_,_]) Tryz.func159 rfl ((pre_nil hS).start |>.mW Pv|>.mW BQ|>.lS gI.1|>.oC gI.2.1|>.bU (α:=List Str) (r:=au.2.2) (x:=p0.w) gI.2.2|>.mW Pq) rfl ?_;unfold VE at hM;refine sr ?_;refine oB (sF s0) fun b1=>?_;refine aP ?_;refine aG fun K2 hK2=>?_;refine iD _ (List.Sublist.refl _) ?_;refine ay 0 rfl (aD 0) ?_;refine ay 1 rfl (aJ (b:=b1)) ?_
 refine ay 2 rfl (rY (b:=yA)) ?_;refine ay 3 rfl (rY (b:=yx)) ?_;obtain⟨y2,hy3,hM⟩:=bind_some hM;refine eD 4 rfl (sV (fun hs=>Fp _ _ dK p0 au p2 y2 hy3 (bC hs) (tF hA hs) ⟨⟨(kM hs),(kM hs),(kM hs),(kM hs)⟩,⟨(kM hs),(kM hs),(kM hs),(kM hs),(kM hs),(kM hs),(kM hs)⟩,(kM hs)⟩) ⟨rI,?_⟩);refine ay 5 rfl mF ?_;refine ay 6 rfl dx ?_;refine dY (hK2 _ _ ?_);clear hK2;exact aW (bN hM)
def agy:Unit→Option Int:=fun _=>
 some (-1)
def WE(s0:List bA)(cZ:bO)(oK:Int)(aY:Nat→Option Int):Nat→Option Int:=fun eY=>
 if decide ((eY:Int)<(s0.length:Int)) then
  ((idx s0 (eY:Int)).bind fun x3=>
  (VE x3 cZ oK).bind fun y5=>
  if y5 then
   (some (eY:Int))
  else
   (aY (eY+1)))
 else
  (agy ())
def WG(s0:List bA)(cZ:bO)(oK:Int):Option Int:=
 iter (WE s0 cZ oK) FUEL 0
theorem apn(S:bB)(w:World)(s0:List bA)(bK:ak.R (List bA))(ql:Nat)(gB:Nat)(cZ:bO)(fU:ak.R bO)(qj:Nat)(oK:Int)(y:Int)(hM:WG s0 cZ oK=some y)(hS:sB S w)(sU:ak.ok S w bK s0)(Pt:S ql∧w.heap[ql]?=some (.cells [vP gB].toArray 102 (0,0)))(uU:S gB∧w.heap[gB]?=some (.cells (kW cZ fU).toArray 104 (0,0)))(xw:ak.ok S w fU cZ)(Pp:S qj∧w.heap[qj]?=some (.cells [vI oK].toArray 3 (0,0))):
   Calls Tryz.prog 136 #[sL bK s0,.func (.func 159) #[] #[vP ql,vP qj]] w (cu w (vI y)):=by
 refine bP (args:=[_,_]) Tryz.func136 rfl ((pre_nil hS).start |>.bU (α:=List bA) (r:=bK) (x:=s0) sU|>.mW Pt|>.mW uU|>.lS xw.1|>.oC xw.2.1|>.bU (α:=List Str) (r:=fU.2.2) (x:=cZ.w) xw.2.2|>.mW Pp) rfl ?_;unfold WG at hM;refine bD ?_;refine aG fun K2 hK2=>?_;refine aO ?_;refine iO (fun w hm=>Kn.len (kG s0 bK) hm) fun hl1=>?_
 refine oe bJ ?_;refine om ?_;refine on ?_;refine bF ?_;refine lq hM (fun eY=>[(0,eS bK s0),(1,.v (.func (.func 159) #[] #[vP ql,vP qj])),(7,eI (s0.length:Int)),(8,eI (eY:Int))]) (fun eY=>[iL s0 bK,iL cZ.l.aM fU.1.1,iL cZ.l.aV fU.1.2.1,iL cZ.l.Sections fU.1.2.2.1,iL cZ.l.Links fU.1.2.2.2,iL cZ.p.aU fU.2.1.1,iL cZ.p.Routes fU.2.1.2.1,iL cZ.p.Lines fU.2.1.2.2.1,iL cZ.p.Changes fU.2.1.2.2.2.1,iL cZ.p.Turns fU.2.1.2.2.2.2.1,iL cZ.p.bq fU.2.1.2.2.2.2.2.1,iL cZ.p.bg fU.2.1.2.2.2.2.2.2,iL cZ.w fU.2.2,jh gB 104 (kW cZ fU),jh ql 102 [vP gB],jh qj 3 [vI oK]]) sS rI ?_
 clear hM;rintro aY eY hM gu hL1;dsimp only[WE] at hM ⊢;refine sr ?_;refine oe cO ?_;refine on ?_;refine aG fun K5 bS=>?_;refine cc rfl hM (fun hc2 hM=>?_) (fun hc2 hM=>?_)
 ·have GH:=of_decide_eq_true hc2;refine aX (bS _ _ ?_);clear bS;refine aG fun K6 bZ=>?_;refine bF ?_;refine aO ?_;refine aP ?_;refine aO ?_;refine om ?_;refine om ?_;obtain⟨x3,hx4,hM⟩:=bind_some hM;refine oe (bI (xs:=s0) 5 (kG s0 bK) (iS hx4)) ?_;refine oe (fO (m:=5) (i:=(eY:Int)) (xs:=s0) (y:=x3) (l:=(sF x3)) 0 (kG s0 bK) (fun _=>hx4)) ?_;obtain⟨y5,kU,hM⟩:=bind_some hM;refine bn (Ky (vs:=[.agg (IZ x3)]) (cap:=[vP ql,vP qj]) (fun w hm=>let ⟨S,hs⟩:=hm;anS _ w x3 ql gB cZ fU qj oK y5 kU (bC hs) (tF hA hs) (tF hA hs) ⟨⟨(kM hs),(kM hs),(kM hs),(kM hs)⟩,⟨(kM hs),(kM hs),(kM hs),(kM hs),(kM hs),(kM hs),(kM hs)⟩,(kM hs)⟩ (tF hA hs)) ?_);refine on ?_;refine cc rfl hM (fun jR hM=>?_) (fun jR hM=>?_)
  · refine aO ?_;refine aP ?_;exact aW (bN hM)
  refine aX (bZ _ _ ?_);clear bZ;refine aZ ?_;refine oe (dH (hr:=fun _=>by unfold d9;omega)) ?_;refine om ?_;refine bf (hL1 hM sS rI)
 refine dL (hK2 _ _ ?_);clear hK2;dsimp only[agy] at hM;refine bD ?_;exact aW (bN hM)
def RD(r0:bO)(i0:Int):Option (Int×Int):=
 (WG r0.p.aU r0 i0).bind fun y3=>
 (G9 r0 y3).bind fun y5=>
 some (y5.1,y5.2)
theorem anT(S:bB)(w:World)(bE:Nat)(r0:bO)(aj:ak.R bO)(i0:Int)(y:Int×Int)(hM:RD r0 i0=some y)(hP:Pre S [own bE 104 (kW r0 aj),ah 71 aj.2.1.1 r0.p.aU,ah 90 aj.2.1.2.1 r0.p.Routes,dJ (fun _=>True) 56 58 aj.2.1.2.2.1 r0.p.Lines,ah 79 aj.2.1.2.2.2.1 r0.p.Changes,ah 94 aj.2.1.2.2.2.2.1 r0.p.Turns,ah 84 aj.2.1.2.2.2.2.2.1 r0.p.bq,ah 86 aj.2.1.2.2.2.2.2.2 r0.p.bg,ah 9 aj.2.2 r0.w] w)(qy:ak.ok (α:=List Str) S w aj.1.1 r0.l.aM)(qz:ak.ok (α:=List Str) S w aj.1.2.1 r0.l.aV)(qA:ak.ok (α:=List Section) S w aj.1.2.2.1 r0.l.Sections)(qB:ak.ok (α:=List Link) S w aj.1.2.2.2 r0.l.Links):
  Calls Tryz.prog 106 #[vP bE,vI i0] w (Post (β:=Unit) S [own bE 104 (kW r0 aj),ah 71 aj.2.1.1 r0.p.aU,ah 90 aj.2.1.2.1 r0.p.Routes,dJ (fun _=>True) 56 58 aj.2.1.2.2.1 r0.p.Lines,ah 79 aj.2.1.2.2.2.1 r0.p.Changes,ah 94 aj.2.1.2.2.2.2.1 r0.p.Turns,ah 84 aj.2.1.2.2.2.2.2.1 r0.p.bq,ah 86 aj.2.1.2.2.2.2.2.2 r0.p.bg,ah 9 aj.2.2 r0.w] (fun g=>vI y.1) (fun g=>[own bE 104 [sL aj.1.1 r0.l.aM,sL aj.1.2.1 r0.l.aV,sL aj.1.2.2.1 r0.l.Sections,sL aj.1.2.2.2 r0.l.Links,vI r0.p.bR,sL aj.2.1.1 r0.p.aU,sL aj.2.1.2.1 r0.p.Routes,sL aj.2.1.2.2.1 r0.p.Lines,sL aj.2.1.2.2.2.1 r0.p.Changes,sL aj.2.1.2.2.2.2.1 r0.p.Turns,sL aj.2.1.2.2.2.2.2.1 r0.p.bq,sL aj.2.1.2.2.2.2.2.2 r0.p.bg,.bool r0.period,sL aj.2.2 r0.w,vI y.2],ah 71 aj.2.1.1 r0.p.aU,ah 90 aj.2.1.2.1 r0.p.Routes,dJ (fun _=>True) 56 58 aj.2.1.2.2.1 r0.p.Lines,ah 79 aj.2.1.2.2.2.1 r0.p.Changes,ah 94 aj.2.1.2.2.2.2.1 r0.p.Turns,ah 84 aj.2.1.2.2.2.2.2.1 r0.p.bq,ah 86 aj.2.1.2.2.2.2.2.2 r0.p.bg,ah 9 aj.2.2 r0.w]) w):=by
 refine bP (args:=[_,_]) Tryz.func106 rfl (hP.start |>.bU (α:=List Str) (r:=aj.1.1) (x:=r0.l.aM) qy|>.bU (α:=List Str) (r:=aj.1.2.1) (x:=r0.l.aV) qz|>.bU (α:=List Section) (r:=aj.1.2.2.1) (x:=r0.l.Sections) qA|>.bU (α:=List Link) (r:=aj.1.2.2.2) (x:=r0.l.Links) qB) rfl ?_;unfold RD at hM;refine sr ?_;refine bn (D5 (h1:=rfl) (k:=fun b1=>?_));refine bn (D5 (h1:=rfl) (k:=fun b2=>?_));refine aP ?_;refine aG fun K2 hK2=>?_;refine OT [uF bE [(5,sL aj.2.1.1 r0.p.aU)],own b2 3 [vI i0],own b1 102 [vP bE],iL r0.l.Links aj.1.2.2.2,iL r0.l.Sections aj.1.2.2.1,iL r0.l.aV aj.1.2.1,iL r0.l.aM aj.1.1,ah 71 aj.2.1.1 r0.p.aU,ah 90 aj.2.1.2.1 r0.p.Routes,dJ (fun _=>True) 56 58 aj.2.1.2.2.1 r0.p.Lines,ah 79 aj.2.1.2.2.2.1 r0.p.Changes,ah 94 aj.2.1.2.2.2.2.1 r0.p.Turns,ah 84 aj.2.1.2.2.2.2.2.1 r0.p.bq,ah 86 aj.2.1.2.2.2.2.2.2 r0.p.bg,ah 9 aj.2.2 r0.w] (pI) ?_;refine ay 0 rfl (aJ (b:=b1)) ?_;refine ay 1 rfl (aJ (b:=b1)) ?_;refine ay 2 rfl bY ?_;refine ay 3 rfl (aD 4) ?_;refine ay 4 rfl (aD 1) ?_
 refine ay 5 rfl (Au (b:=bE) (o:=5) (ps:=[(5,sL aj.2.1.1 r0.p.aU)]) hA (by repeat (first|exact List.Mem.head _|apply List.Mem.tail))) ?_;refine ay 6 rfl Jg ?_;obtain⟨y3,hy4,hM⟩:=bind_some hM;refine eD 7 rfl (jO (fun w hm=>let ⟨S,hs⟩:=hm;apn _ w r0.p.aU aj.2.1.1 b1 bE r0 aj b2 i0 y3 hy4 (bC hs) (kT hs) (uE hA hs) (uE hA hs) ⟨⟨(kM hs),(kM hs),(kM hs),(kM hs)⟩,⟨(kT hs),(kT hs),(Kn.lend (Kn.dJ (e:=56) (e2:=58) (r:=aj.2.1.2.2.1) hA) hs),(kT hs),(kT hs),(kT hs),(kT hs)⟩,(kT hs)⟩ (uE hA hs)) ⟨pI,?_⟩);obtain⟨y5,kU,hM⟩:=bind_some hM;refine eD 8 rfl (fq sA (fun S w hs hP=>VA _ w bE r0 aj y3 y5 kU hP (kI hs) (kI hs) (kI hs) (kI hs)) (fun r7=>⟨pI,?_⟩));dsimp only[cA,nA];refine ay 9 rfl dx ?_;refine dY (hK2 _ _ ?_);clear hK2;obtain rfl:=some_inj hM;refine aW (jE (fun w hm=>dO () hm rfl))
def VB(k0:Line)(p0:bO)(p2:Int):Option Bool:=
 (zJ p0 p2).bind fun y2=>
 some (decide (k0.Name=y2))
theorem anP(S:bB)(w:World)(k0:Line)(Fv:ak.R Line)(yA:Nat)(dK:Nat)(p0:bO)(au:ak.R bO)(yx:Nat)(p2:Int)(y:Bool)(hM:VB k0 p0 p2=some y)(hS:sB S w)(YQ:ak.ok S w Fv k0)(Pv:S yA∧w.heap[yA]?=some (.cells [vP dK].toArray 102 (0,0)))(BQ:S dK∧w.heap[dK]?=some (.cells (kW p0 au).toArray 104 (0,0)))(gI:ak.ok S w au p0)(Pq:S yx∧w.heap[yx]?=some (.cells [vI p2].toArray 3 (0,0))):
  Calls Tryz.prog 161 #[.agg (IY k0 Fv),vP yA,vP yx] w (cu w (.bool y)):=by
 refine bP (args:=[_,_,_]) Tryz.func161 rfl ((pre_nil hS).start |>.bU (α:=List dD) (r:=Fv) (x:=k0.bL) YQ|>.mW Pv|>.mW BQ|>.lS gI.1|>.oC gI.2.1|>.bU (α:=List Str) (r:=au.2.2) (x:=p0.w) gI.2.2|>.mW Pq) rfl ?_;unfold VB at hM;refine sr ?_;refine oB (mV k0 Fv) fun b1=>?_;refine aP ?_;refine aG fun K2 hK2=>?_;refine iD _ (List.Sublist.refl _) ?_;refine ay 0 rfl (aD 0) ?_
 refine ay 1 rfl (aJ (b:=b1)) ?_;refine ay 2 rfl (rY (b:=yA)) ?_;refine ay 3 rfl (rY (b:=yx)) ?_;obtain⟨y2,hy3,hM⟩:=bind_some hM;refine eD 4 rfl (sV (fun hs=>Fp _ _ dK p0 au p2 y2 hy3 (bC hs) (tF hA hs) ⟨⟨(kM hs),(kM hs),(kM hs),(kM hs)⟩,⟨(kM hs),(kM hs),(kM hs),(kM hs),(kM hs),(kM hs),(kM hs)⟩,(kM hs)⟩) ⟨rI,?_⟩);refine ay 5 rfl mF ?_;refine ay 6 rfl dx ?_;refine dY (hK2 _ _ ?_);clear hK2;exact aW (bN hM)
def agv:Unit→Option Int:=fun _=>
 some (-1)
def Wx(s0:List Line)(cZ:bO)(oK:Int)(aY:Nat→Option Int):Nat→Option Int:=fun eY=>
 if decide ((eY:Int)<(s0.length:Int)) then
  ((idx s0 (eY:Int)).bind fun x3=>
  (VB x3 cZ oK).bind fun y5=>
  if y5 then
   (some (eY:Int))
  else
   (aY (eY+1)))
 else
  (agv ())
def Wy(s0:List Line)(cZ:bO)(oK:Int):Option Int:=
 iter (Wx s0 cZ oK) FUEL 0
theorem apk(S:bB)(w:World)(s0:List Line)(bK:ak.R (List Line))(ql:Nat)(gB:Nat)(cZ:bO)(fU:ak.R bO)(qj:Nat)(oK:Int)(y:Int)(hM:Wy s0 cZ oK=some y)(hS:sB S w)(sU:ak.ok S w bK s0)(Pt:S ql∧w.heap[ql]?=some (.cells [vP gB].toArray 102 (0,0)))(uU:S gB∧w.heap[gB]?=some (.cells (kW cZ fU).toArray 104 (0,0)))(xw:ak.ok S w fU cZ)(Pp:S qj∧w.heap[qj]?=some (.cells [vI oK].toArray 3 (0,0))):
   Calls Tryz.prog 138 #[sL bK s0,.func (.func 161) #[] #[vP ql,vP qj]] w (cu w (vI y)):=by
 refine bP (args:=[_,_]) Tryz.func138 rfl ((pre_nil hS).start |>.bU (α:=List Line) (r:=bK) (x:=s0) sU|>.mW Pt|>.mW uU|>.lS xw.1|>.oC xw.2.1|>.bU (α:=List Str) (r:=fU.2.2) (x:=cZ.w) xw.2.2|>.mW Pp) rfl ?_;unfold Wy at hM;refine bD ?_;refine aG fun K2 hK2=>?_;refine aO ?_;refine iO (fun w hm=>Kn.len (kG s0 bK) hm) fun hl1=>?_
 refine oe bJ ?_;refine om ?_;refine on ?_;refine bF ?_;refine lq hM (fun eY=>[(0,eS bK s0),(1,.v (.func (.func 161) #[] #[vP ql,vP qj])),(7,eI (s0.length:Int)),(8,eI (eY:Int))]) (fun eY=>[iL s0 bK,iL cZ.l.aM fU.1.1,iL cZ.l.aV fU.1.2.1,iL cZ.l.Sections fU.1.2.2.1,iL cZ.l.Links fU.1.2.2.2,iL cZ.p.aU fU.2.1.1,iL cZ.p.Routes fU.2.1.2.1,iL cZ.p.Lines fU.2.1.2.2.1,iL cZ.p.Changes fU.2.1.2.2.2.1,iL cZ.p.Turns fU.2.1.2.2.2.2.1,iL cZ.p.bq fU.2.1.2.2.2.2.2.1,iL cZ.p.bg fU.2.1.2.2.2.2.2.2,iL cZ.w fU.2.2,jh gB 104 (kW cZ fU),jh ql 102 [vP gB],jh qj 3 [vI oK]]) sS rI ?_
 clear hM;rintro aY eY hM gu hL1;dsimp only[Wx] at hM ⊢;refine sr ?_;refine oe cO ?_;refine on ?_;refine aG fun K5 bS=>?_;refine cc rfl hM (fun hc2 hM=>?_) (fun hc2 hM=>?_)
 ·have GH:=of_decide_eq_true hc2;refine aX (bS _ _ ?_);clear bS;refine aG fun K6 bZ=>?_;refine bF ?_;refine aO ?_;refine aP ?_;refine aO ?_;refine om ?_;refine om ?_;obtain⟨x3,hx4,hM⟩:=bind_some hM;refine oe (bI (xs:=s0) 4 (kG s0 bK) (iS hx4)) ?_;refine oe (fO (m:=4) (i:=(eY:Int)) (xs:=s0) (y:=x3) (l:=(mV x3 (bK.es (eY:Int).toNat))) 0 (kG s0 bK) (fun _=>hx4)) ?_;obtain⟨y5,kU,hM⟩:=bind_some hM;refine bn (Ky (vs:=[.agg (IY x3 (bK.es (eY:Int).toNat))]) (cap:=[vP ql,vP qj]) (fun w hm=>let ⟨S,hs⟩:=hm;anP _ w x3 (bK.es (eY:Int).toNat) ql gB cZ fU qj oK y5 kU (bC hs) (Kn.lend ((Sk.elem (Sk.dW (α:=List Line) (r:=bK) (x:=s0) hA) hx4)).kn hs) (tF hA hs) (tF hA hs) ⟨⟨(kM hs),(kM hs),(kM hs),(kM hs)⟩,⟨(kM hs),(kM hs),(kM hs),(kM hs),(kM hs),(kM hs),(kM hs)⟩,(kM hs)⟩ (tF hA hs)) ?_)
  refine on ?_;refine cc rfl hM (fun jR hM=>?_) (fun jR hM=>?_)
  · refine aO ?_;refine aP ?_;exact aW (bN hM)
  refine aX (bZ _ _ ?_);clear bZ;refine aZ ?_;refine oe (dH (hr:=fun _=>by unfold d9;omega)) ?_;refine om ?_;refine bf (hL1 hM sS rI)
 refine dL (hK2 _ _ ?_);clear hK2;dsimp only[agv] at hM;refine bD ?_;exact aW (bN hM)
def DK(r0:bO)(i0:Int):Option (Int×Int):=
 (Wy r0.p.Lines r0 i0).bind fun y3=>
 (G9 r0 y3).bind fun y5=>
 some (y5.1,y5.2)
theorem M9(S:bB)(w:World)(bE:Nat)(r0:bO)(aj:ak.R bO)(i0:Int)(y:Int×Int)(hM:DK r0 i0=some y)(hP:Pre S [own bE 104 (kW r0 aj),ah 71 aj.2.1.1 r0.p.aU,ah 90 aj.2.1.2.1 r0.p.Routes,dJ (fun _=>True) 56 58 aj.2.1.2.2.1 r0.p.Lines,ah 79 aj.2.1.2.2.2.1 r0.p.Changes,ah 94 aj.2.1.2.2.2.2.1 r0.p.Turns,ah 84 aj.2.1.2.2.2.2.2.1 r0.p.bq,ah 86 aj.2.1.2.2.2.2.2.2 r0.p.bg,ah 9 aj.2.2 r0.w] w)(qy:ak.ok (α:=List Str) S w aj.1.1 r0.l.aM)(qz:ak.ok (α:=List Str) S w aj.1.2.1 r0.l.aV)(qA:ak.ok (α:=List Section) S w aj.1.2.2.1 r0.l.Sections)(qB:ak.ok (α:=List Link) S w aj.1.2.2.2 r0.l.Links):
  Calls Tryz.prog 109 #[vP bE,vI i0] w (Post (β:=Unit) S [own bE 104 (kW r0 aj),ah 71 aj.2.1.1 r0.p.aU,ah 90 aj.2.1.2.1 r0.p.Routes,dJ (fun _=>True) 56 58 aj.2.1.2.2.1 r0.p.Lines,ah 79 aj.2.1.2.2.2.1 r0.p.Changes,ah 94 aj.2.1.2.2.2.2.1 r0.p.Turns,ah 84 aj.2.1.2.2.2.2.2.1 r0.p.bq,ah 86 aj.2.1.2.2.2.2.2.2 r0.p.bg,ah 9 aj.2.2 r0.w] (fun g=>vI y.1) (fun g=>[own bE 104 [sL aj.1.1 r0.l.aM,sL aj.1.2.1 r0.l.aV,sL aj.1.2.2.1 r0.l.Sections,sL aj.1.2.2.2 r0.l.Links,vI r0.p.bR,sL aj.2.1.1 r0.p.aU,sL aj.2.1.2.1 r0.p.Routes,sL aj.2.1.2.2.1 r0.p.Lines,sL aj.2.1.2.2.2.1 r0.p.Changes,sL aj.2.1.2.2.2.2.1 r0.p.Turns,sL aj.2.1.2.2.2.2.2.1 r0.p.bq,sL aj.2.1.2.2.2.2.2.2 r0.p.bg,.bool r0.period,sL aj.2.2 r0.w,vI y.2],ah 71 aj.2.1.1 r0.p.aU,ah 90 aj.2.1.2.1 r0.p.Routes,dJ (fun _=>True) 56 58 aj.2.1.2.2.1 r0.p.Lines,ah 79 aj.2.1.2.2.2.1 r0.p.Changes,ah 94 aj.2.1.2.2.2.2.1 r0.p.Turns,ah 84 aj.2.1.2.2.2.2.2.1 r0.p.bq,ah 86 aj.2.1.2.2.2.2.2.2 r0.p.bg,ah 9 aj.2.2 r0.w]) w):=by
 refine bP (args:=[_,_]) Tryz.func109 rfl (hP.start |>.bU (α:=List Str) (r:=aj.1.1) (x:=r0.l.aM) qy|>.bU (α:=List Str) (r:=aj.1.2.1) (x:=r0.l.aV) qz|>.bU (α:=List Section) (r:=aj.1.2.2.1) (x:=r0.l.Sections) qA|>.bU (α:=List Link) (r:=aj.1.2.2.2) (x:=r0.l.Links) qB) rfl ?_;unfold DK at hM;refine sr ?_;refine bn (D5 (h1:=rfl) (k:=fun b1=>?_));refine bn (D5 (h1:=rfl) (k:=fun b2=>?_));refine aP ?_;refine aG fun K2 hK2=>?_;refine OT [uF bE [(7,sL aj.2.1.2.2.1 r0.p.Lines)],own b2 3 [vI i0],own b1 102 [vP bE],iL r0.l.Links aj.1.2.2.2,iL r0.l.Sections aj.1.2.2.1,iL r0.l.aV aj.1.2.1,iL r0.l.aM aj.1.1,ah 71 aj.2.1.1 r0.p.aU,ah 90 aj.2.1.2.1 r0.p.Routes,dJ (fun _=>True) 56 58 aj.2.1.2.2.1 r0.p.Lines,ah 79 aj.2.1.2.2.2.1 r0.p.Changes,ah 94 aj.2.1.2.2.2.2.1 r0.p.Turns,ah 84 aj.2.1.2.2.2.2.2.1 r0.p.bq,ah 86 aj.2.1.2.2.2.2.2.2 r0.p.bg,ah 9 aj.2.2 r0.w] (pI) ?_;refine ay 0 rfl (aJ (b:=b1)) ?_;refine ay 1 rfl (aJ (b:=b1)) ?_;refine ay 2 rfl bY ?_;refine ay 3 rfl (aD 4) ?_;refine ay 4 rfl (aD 3) ?_
 refine ay 5 rfl (Au (b:=bE) (o:=7) (ps:=[(7,sL aj.2.1.2.2.1 r0.p.Lines)]) hA (by repeat (first|exact List.Mem.head _|apply List.Mem.tail))) ?_;refine ay 6 rfl Jg ?_;obtain⟨y3,hy4,hM⟩:=bind_some hM;refine eD 7 rfl (jO (fun w hm=>let ⟨S,hs⟩:=hm;apk _ w r0.p.Lines aj.2.1.2.2.1 b1 bE r0 aj b2 i0 y3 hy4 (bC hs) (Kn.lend (Kn.dJ (e:=56) (e2:=58) (r:=aj.2.1.2.2.1) hA) hs) (uE hA hs) (uE hA hs) ⟨⟨(kM hs),(kM hs),(kM hs),(kM hs)⟩,⟨(kT hs),(kT hs),(Kn.lend (Kn.dJ (e:=56) (e2:=58) (r:=aj.2.1.2.2.1) hA) hs),(kT hs),(kT hs),(kT hs),(kT hs)⟩,(kT hs)⟩ (uE hA hs)) ⟨pI,?_⟩);obtain⟨y5,kU,hM⟩:=bind_some hM;refine eD 8 rfl (fq sA (fun S w hs hP=>VA _ w bE r0 aj y3 y5 kU hP (kI hs) (kI hs) (kI hs) (kI hs)) (fun r7=>⟨pI,?_⟩));dsimp only[cA,nA];refine ay 9 rfl dx ?_;refine dY (hK2 _ _ ?_);clear hK2;obtain rfl:=some_inj hM;refine aW (jE (fun w hm=>dO () hm rfl))
def agA:Unit→Option Int:=fun _=>
 some (-1)
def WJ(s0:List Str)(v0:Str)(aY:Nat→Option Int):Nat→Option Int:=fun eY=>
 if decide ((eY:Int)<(s0.length:Int)) then
  ((idx s0 (eY:Int)).bind fun x3=>
  if decide (v0=x3) then
   (some (eY:Int))
  else
   (aY (eY+1)))
 else
  (agA ())
def Tc(s0:List Str)(v0:Str):Option Int:=
 iter (WJ s0 v0) FUEL 0
theorem apr(S:bB)(w:World)(s0:List Str)(bK:ak.R (List Str))(v0:Str)(y:Int)(hM:Tc s0 v0=some y)(hS:sB S w)(sU:ak.ok S w bK s0):
   Calls Tryz.prog 162 #[sL bK s0,.string v0.ba] w (cu w (vI y)):=by
 refine bP (args:=[_,_]) Tryz.func162 rfl ((pre_nil hS).start |>.bU (α:=List Str) (r:=bK) (x:=s0) sU) rfl ?_;unfold Tc at hM;refine bD ?_;refine aG fun K2 hK2=>?_;refine aO ?_;refine iO (fun w hm=>Kn.len (kG s0 bK) hm) fun hl1=>?_;refine oe bJ ?_;refine om ?_;refine on ?_;refine bF ?_;refine lq hM (fun eY=>[(0,eS bK s0),(1,.v (.string v0.ba)),(7,eI (s0.length:Int)),(8,eI (eY:Int))]) (fun eY=>[iL s0 bK]) sS rI ?_;clear hM;rintro aY eY hM gu hL1;dsimp only[WJ] at hM ⊢;refine sr ?_;refine oe cO ?_;refine on ?_;refine aG fun K5 bS=>?_;refine cc rfl hM (fun hc2 hM=>?_) (fun hc2 hM=>?_)
 ·have GH:=of_decide_eq_true hc2;refine aX (bS _ _ ?_);clear bS;refine aG fun K6 bZ=>?_;refine bF ?_;refine aO ?_;refine aP ?_;refine aO ?_;refine om ?_;refine om ?_;obtain⟨x3,hx4,hM⟩:=bind_some hM;refine oe (bI (xs:=s0) 1 (kG s0 bK) (iS hx4)) ?_;refine oe (dh (i:=(eY:Int)) (xs:=s0) (y:=x3) 0 (kG s0 bK) (fun _=>hx4)) ?_;refine oe mF ?_;refine on ?_;refine cc rfl hM (fun jA hM=>?_) (fun jA hM=>?_)
  · refine aO ?_;refine aP ?_;exact aW (bN hM)
  refine aX (bZ _ _ ?_);clear bZ;refine aZ ?_;refine oe (dH (hr:=fun _=>by unfold d9;omega)) ?_;refine om ?_;refine bf (hL1 hM sS rI)
 refine dL (hK2 _ _ ?_);clear hK2;dsimp only[agA] at hM;refine bD ?_;exact aW (bN hM)
def Na(r0:bO)(i0:Int):Option (Int×Int):=
 (zJ r0 i0).bind fun y1=>
 (Tc r0.l.aM y1).bind fun y3=>
 (G9 r0 y3).bind fun y5=>
 some (y5.1,y5.2)
theorem ae8(S:bB)(w:World)(bE:Nat)(r0:bO)(aj:ak.R bO)(i0:Int)(y:Int×Int)(hM:Na r0 i0=some y)(hP:Pre S [own bE 104 (kW r0 aj),ah 71 aj.2.1.1 r0.p.aU,ah 90 aj.2.1.2.1 r0.p.Routes,dJ (fun _=>True) 56 58 aj.2.1.2.2.1 r0.p.Lines,ah 79 aj.2.1.2.2.2.1 r0.p.Changes,ah 94 aj.2.1.2.2.2.2.1 r0.p.Turns,ah 84 aj.2.1.2.2.2.2.2.1 r0.p.bq,ah 86 aj.2.1.2.2.2.2.2.2 r0.p.bg,ah 9 aj.2.2 r0.w] w)(qy:ak.ok (α:=List Str) S w aj.1.1 r0.l.aM)(qz:ak.ok (α:=List Str) S w aj.1.2.1 r0.l.aV)(qA:ak.ok (α:=List Section) S w aj.1.2.2.1 r0.l.Sections)(qB:ak.ok (α:=List Link) S w aj.1.2.2.2 r0.l.Links):
  Calls Tryz.prog 110 #[vP bE,vI i0] w (Post (β:=Unit) S [own bE 104 (kW r0 aj),ah 71 aj.2.1.1 r0.p.aU,ah 90 aj.2.1.2.1 r0.p.Routes,dJ (fun _=>True) 56 58 aj.2.1.2.2.1 r0.p.Lines,ah 79 aj.2.1.2.2.2.1 r0.p.Changes,ah 94 aj.2.1.2.2.2.2.1 r0.p.Turns,ah 84 aj.2.1.2.2.2.2.2.1 r0.p.bq,ah 86 aj.2.1.2.2.2.2.2.2 r0.p.bg,ah 9 aj.2.2 r0.w] (fun g=>vI y.1) (fun g=>[own bE 104 [sL aj.1.1 r0.l.aM,sL aj.1.2.1 r0.l.aV,sL aj.1.2.2.1 r0.l.Sections,sL aj.1.2.2.2 r0.l.Links,vI r0.p.bR,sL aj.2.1.1 r0.p.aU,sL aj.2.1.2.1 r0.p.Routes,sL aj.2.1.2.2.1 r0.p.Lines,sL aj.2.1.2.2.2.1 r0.p.Changes,sL aj.2.1.2.2.2.2.1 r0.p.Turns,sL aj.2.1.2.2.2.2.2.1 r0.p.bq,sL aj.2.1.2.2.2.2.2.2 r0.p.bg,.bool r0.period,sL aj.2.2 r0.w,vI y.2],ah 71 aj.2.1.1 r0.p.aU,ah 90 aj.2.1.2.1 r0.p.Routes,dJ (fun _=>True) 56 58 aj.2.1.2.2.1 r0.p.Lines,ah 79 aj.2.1.2.2.2.1 r0.p.Changes,ah 94 aj.2.1.2.2.2.2.1 r0.p.Turns,ah 84 aj.2.1.2.2.2.2.2.1 r0.p.bq,ah 86 aj.2.1.2.2.2.2.2.2 r0.p.bg,ah 9 aj.2.2 r0.w]) w):=by
 refine bP (args:=[_,_]) Tryz.func110 rfl (hP.start |>.bU (α:=List Str) (r:=aj.1.1) (x:=r0.l.aM) qy|>.bU (α:=List Str) (r:=aj.1.2.1) (x:=r0.l.aV) qz|>.bU (α:=List Section) (r:=aj.1.2.2.1) (x:=r0.l.Sections) qA|>.bU (α:=List Link) (r:=aj.1.2.2.2) (x:=r0.l.Links) qB) rfl ?_;unfold Na at hM;refine bD ?_;refine aG fun K2 hK2=>?_;refine OT [uF bE [(0,sL aj.1.1 r0.l.aM)],iL r0.l.Links aj.1.2.2.2,iL r0.l.Sections aj.1.2.2.1,iL r0.l.aV aj.1.2.1,iL r0.l.aM aj.1.1,ah 71 aj.2.1.1 r0.p.aU,ah 90 aj.2.1.2.1 r0.p.Routes,dJ (fun _=>True) 56 58 aj.2.1.2.2.1 r0.p.Lines,ah 79 aj.2.1.2.2.2.1 r0.p.Changes,ah 94 aj.2.1.2.2.2.2.1 r0.p.Turns,ah 84 aj.2.1.2.2.2.2.2.1 r0.p.bq,ah 86 aj.2.1.2.2.2.2.2.2 r0.p.bg,ah 9 aj.2.2 r0.w] (pI) ?_;refine ay 0 rfl aH ?_;refine ay 1 rfl aH ?_;refine ay 2 rfl bY ?_;refine ay 3 rfl (aD 0) ?_;refine ay 4 rfl (aD 0) ?_;refine ay 5 rfl (Au (b:=bE) (o:=0) (ps:=[(0,sL aj.1.1 r0.l.aM)]) hA (by repeat (first|exact List.Mem.head _|apply List.Mem.tail))) ?_;refine ay 6 rfl aH ?_
 refine ay 7 rfl aH ?_;obtain⟨y1,hy2,hM⟩:=bind_some hM;refine eD 8 rfl (jO (fun w hm=>let ⟨S,hs⟩:=hm;Fp _ w bE r0 aj i0 y1 hy2 (bC hs) (uE hA hs) ⟨⟨(kM hs),(kM hs),(kM hs),(kM hs)⟩,⟨(kT hs),(kT hs),(Kn.lend (Kn.dJ (e:=56) (e2:=58) (r:=aj.2.1.2.2.1) hA) hs),(kT hs),(kT hs),(kT hs),(kT hs)⟩,(kT hs)⟩) ⟨pI,?_⟩);obtain⟨y3,hy4,hM⟩:=bind_some hM;refine eD 9 rfl (jO (fun w hm=>let ⟨S,hs⟩:=hm;apr _ w r0.l.aM aj.1.1 y1 y3 hy4 (bC hs) (kM hs)) ⟨pI,?_⟩);obtain⟨y5,kU,hM⟩:=bind_some hM;refine eD 10 rfl (fq sA (fun S w hs hP=>VA _ w bE r0 aj y3 y5 kU hP (kI hs) (kI hs) (kI hs) (kI hs)) (fun r7=>⟨pI,?_⟩));dsimp only[cA,nA];refine ay 11 rfl dx ?_;refine dY (hK2 _ _ ?_);clear hK2;obtain rfl:=some_inj hM;refine aW (jE (fun w hm=>dO () hm rfl))
end Go.Proofs.YtcalibhfgdncaaaGreatDoor

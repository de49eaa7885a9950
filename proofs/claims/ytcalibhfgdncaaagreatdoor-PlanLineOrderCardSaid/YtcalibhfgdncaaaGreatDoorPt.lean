/- Functions: models, proved of the code. -/
import Derived.Test.YtcalibhfgdncaaaGreatDoorPs
import Derived.Test.YtcalibhfgdncaaaGreatDoorRc
namespace Go.Proofs.YtcalibhfgdncaaaGreatDoor
open Go.Dc Go.RowKit
set_option maxRecDepth 10000
set_option linter.all false
def Zc:Option Bool:=
 (ad7).bind fun y1=>
 (O1 y1 (Plan.mk 0 ([]:List aQ) ([]:List aG) ([]:List Line) ([]:List Change) ([]:List Turn) ([]:List Sync) ([]:List bZ))).bind fun dR=>
 some (decide (dR=4))
theorem asw(S:aW)(w:World)(y:Bool)(hM:Zc=some y)(hS:sB S w):
  Calls Tryz.prog 9 #[] w (bM w (.bool y)):=by
 refine bF (args:=[]) Tryz.func9 rfl ((pre_nil hS).start) rfl ?_;unfold Zc at hM;refine aJ ?_;refine sr ?_;obtain⟨y1,hy2,hM⟩:=bind_some hM;refine bf (fu iO.nil (fun S w hs hP=>asx _ w y1 hy2 (aM hs)) fG (fun r3=>?_));dsimp only[cA,nA];refine oe (dO [vI 0,z0,z0,z0,z0,z0,z0,z0]) ?_;refine z8 (fun w hm=>hm.sN (α:=aQ) 71 (fun _=>())) ?_;refine z8 (fun w hm=>hm.sN (α:=aG) 90 (fun _=>uF)) ?_;refine z8 (fun w hm=>hm.sN (α:=Line) 56 (fun _=>l7)) ?_;refine z8 (fun w hm=>hm.sN (α:=Change) 79 (fun _=>())) ?_;refine z8 (fun w hm=>hm.sN (α:=Turn) 94 (fun _=>())) ?_;refine z8 (fun w hm=>hm.sN (α:=Sync) 84 (fun _=>())) ?_;refine z8 (fun w hm=>hm.sN (α:=bZ) 86 (fun _=>())) ?_;obtain⟨dR,uy,hM⟩:=bind_some hM;refine cv (fun hs=>aiM _ _ y1 r3 (Plan.mk 0 ([]:List aQ) ([]:List aG) ([]:List Line) ([]:List Change) ([]:List Turn) ([]:List Sync) ([]:List bZ)) (zW,yS,qM,wT,xV,sJ,tO) dR uy (aM hs) ⟨(kT hs),(kT hs),(kT hs),(kT hs)⟩ ⟨(kT hs),(kT hs),(kT hs),(kT hs),(kT hs),(kT hs),(kT hs)⟩) ?_
 refine oe oK ?_;refine aN ?_;exact aF (aZ hM)
end Go.Proofs.YtcalibhfgdncaaaGreatDoor

/- Models of functions, and that the code computes them. -/
import Derived.Test.YtcalibhfgdncaaaGreatDoorPs
import Derived.Test.YtcalibhfgdncaaaGreatDoorRc
set_option linter.all false
namespace Go.Proofs.YtcalibhfgdncaaaGreatDoor
open Go.Dc Go.RowKit
set_option maxRecDepth 10000
def VX:Option Bool:=
 (aa6).bind fun y1=>
 (Ho y1 (Plan.mk 0 ([]:List aH) ([]:List aO) ([]:List Line) ([]:List Change) ([]:List Turn) ([]:List Sync) ([]:List dF))).bind fun eU=>
 some (decide (eU=4))
theorem aoZ(S:bO)(w:World)(y:Bool)(hM:VX=some y)(hS:sB S w):
  Calls Tryz.prog 9 #[] w (dz w (.bool y)):=by
 refine cu (args:=[]) Tryz.func9 rfl ((pre_nil hS).start) rfl ?_;unfold VX at hM;refine bI ?_;refine sr ?_;obtain⟨y1,hy2,hM⟩:=bind_some hM;refine bM (fJ jM.nil (fun S w hs hP=>ao0 _ w y1 hy2 (bf hs)) gq (fun r3=>?_));dsimp only[cA,nA];refine oe (gI [vI 0,z0,z0,z0,z0,z0,z0,z0]) ?_;refine mU (fun w hm=>hm.dR (α:=aH) 71 (fun _=>())) ?_;refine mU (fun w hm=>hm.dR (α:=aO) 90 (fun _=>Ac)) ?_;refine mU (fun w hm=>hm.dR (α:=Line) 56 (fun _=>J7)) ?_;refine mU (fun w hm=>hm.dR (α:=Change) 79 (fun _=>())) ?_;refine mU (fun w hm=>hm.dR (α:=Turn) 94 (fun _=>())) ?_;refine mU (fun w hm=>hm.dR (α:=Sync) 84 (fun _=>())) ?_;refine mU (fun w hm=>hm.dR (α:=dF) 86 (fun _=>())) ?_;obtain⟨eU,vV,hM⟩:=bind_some hM;refine cv (fun hs=>V6 _ _ y1 r3 (Plan.mk 0 ([]:List aH) ([]:List aO) ([]:List Line) ([]:List Change) ([]:List Turn) ([]:List Sync) ([]:List dF)) (Ad,yY,yX,uZ,wh,qj,pV) eU vV (bf hs) ⟨(kT hs),(kT hs),(kT hs),(kT hs)⟩ ⟨(kT hs),(kT hs),(kT hs),(kT hs),(kT hs),(kT hs),(kT hs)⟩) ?_
 refine oe dU ?_;refine aT ?_;exact aY (bQ hM)
end Go.Proofs.YtcalibhfgdncaaaGreatDoor

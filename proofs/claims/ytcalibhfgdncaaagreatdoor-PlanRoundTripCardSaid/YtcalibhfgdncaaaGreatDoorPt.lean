/- Models of functions, and that the code computes them. -/
import Derived.Test.YtcalibhfgdncaaaGreatDoorPs
import Derived.Test.YtcalibhfgdncaaaGreatDoorRc
set_option linter.all false
namespace Go.Proofs.YtcalibhfgdncaaaGreatDoor
open Go.Dc Go.RowKit
set_option maxRecDepth 10000
def Vg:Option Bool:=
 (aai).bind fun y1=>
 (JR y1 (Plan.mk 0 ([]:List bA) ([]:List aQ) ([]:List Line) ([]:List Change) ([]:List Turn) ([]:List Sync) ([]:List dB))).bind fun fA=>
 some (decide (fA=4))
theorem amb(S:bB)(w:World)(y:Bool)(hM:Vg=some y)(hS:sB S w):
  Calls Tryz.prog 9 #[] w (cu w (.bool y)):=by
 refine bP (args:=[]) Tryz.func9 rfl ((pre_nil hS).start) rfl ?_;unfold Vg at hM;refine bD ?_;refine sr ?_;obtain⟨y1,hy2,hM⟩:=bind_some hM;refine bn (eU jw.nil (fun S w hs hP=>amc _ w y1 hy2 (bC hs)) fK (fun r3=>?_));dsimp only[cA,nA];refine oe (fT [vI 0,z0,z0,z0,z0,z0,z0,z0]) ?_;refine rQ (fun w hm=>hm.bV (α:=bA) 71 (fun _=>())) ?_;refine rQ (fun w hm=>hm.bV (α:=aQ) 90 (fun _=>uz)) ?_;refine rQ (fun w hm=>hm.bV (α:=Line) 56 (fun _=>sw)) ?_;refine rQ (fun w hm=>hm.bV (α:=Change) 79 (fun _=>())) ?_;refine rQ (fun w hm=>hm.bV (α:=Turn) 94 (fun _=>())) ?_;refine rQ (fun w hm=>hm.bV (α:=Sync) 84 (fun _=>())) ?_;refine rQ (fun w hm=>hm.bV (α:=dB) 86 (fun _=>())) ?_;obtain⟨fA,uX,hM⟩:=bind_some hM;refine cv (fun hs=>aay _ _ y1 r3 (Plan.mk 0 ([]:List bA) ([]:List aQ) ([]:List Line) ([]:List Change) ([]:List Turn) ([]:List Sync) ([]:List dB)) (sZ,sD,pW,pV,qF,mJ,mg) fA uX (bC hs) ⟨(kT hs),(kT hs),(kT hs),(kT hs)⟩ ⟨(kT hs),(kT hs),(kT hs),(kT hs),(kT hs),(kT hs),(kT hs)⟩) ?_
 refine oe eu ?_;refine aP ?_;exact aW (bN hM)
end Go.Proofs.YtcalibhfgdncaaaGreatDoor

/- Functions: models, proved of the code. -/
import Derived.Test.YtcalibhfgdncaaaGreatDoorYe
import Derived.Test.YtcalibhfgdncaaaGreatDoorYb
import Derived.Test.YtcalibhfgdncaaaGreatDoorYf
namespace Go.Proofs.YtcalibhfgdncaaaGreatDoor
open Go.Dc Go.RowKit
attribute [local irreducible] CW OW AW AZ Ev
set_option maxHeartbeats 0
set_option maxRecDepth 10000
set_option linter.all false
def Uf(l0:Layout)(s0:Str):Option Bool:=
 (UF l0 s0).bind fun y2=>
 (VP l0 s0).bind fun y6=>
 (Tx y2.1 y6.1).bind fun iw=>
 some ((iw&&decide (y2.2.1=y6.2.1))&&decide (y2.2.2=y6.2.2))
theorem asy(S:aW)(w:World)(l0:Layout)(aD:ah.R Layout)(s0:Str)(y:Bool)(hM:Uf l0 s0=some y)(hS:sB S w)(dQ:ah.ok S w aD l0)(AO:(lY 2).φ S w):
  Calls Tryz.prog 17 #[.agg (jy l0 aD),.string s0.ba] w (bM w (.bool y)):=by
 refine bF (args:=[_,_]) Tryz.func17 rfl ((pre_nil hS).start |>.je dQ|>.KX (c:=lY 2) (fun _ h=>False.elim h) AO) rfl ?_;unfold Uf at hM;refine sr ?_;refine oB (iR l0 aD) fun b1=>?_;refine go ?_;obtain⟨y2,hy3,hM⟩:=bind_some hM;refine bf (eH iO.nil (fun S w hs hP=>atM _ w l0 aD s0 y2 hy3 hs.lt ⟨(kI hs),(kI hs),(kI hs),(kI hs)⟩ ((hA:Has _ (lY 2)).φ hs)) (fun r4=>?_));dsimp only[cA,nA];refine om ?_;refine oe (bU (vs:=[.agg (jI y2.1 r4),vI y2.2.1,vI y2.2.2])) ?_;refine oe (bU (vs:=[.agg (jI y2.1 r4),vI y2.2.1,vI y2.2.2])) ?_;refine oe (bU (vs:=[.agg (jI y2.1 r4),vI y2.2.1,vI y2.2.2])) ?_;refine oA rfl fun b5=>?_;refine oS b5 (kX y2.1 r4) ?_;refine go ?_;obtain⟨y6,nS,hM⟩:=bind_some hM;refine bf (eH iO.nil (fun S w hs hP=>auO _ w l0 aD s0 y6 nS hs.lt ⟨(kI hs),(kI hs),(kI hs),(kI hs)⟩) (fun r8=>?_));dsimp only[cA,nA];refine om ?_;refine oe (bU (vs:=[.agg (jI y6.1 r8),vI y6.2.1,vI y6.2.2])) ?_;refine oe (bU (vs:=[.agg (jI y6.1 r8),vI y6.2.1,vI y6.2.2])) ?_;refine oe (bU (vs:=[.agg (jI y6.1 r8),vI y6.2.1,vI y6.2.2])) ?_;refine oA rfl fun b9=>?_;refine oS b9 (kX y6.1 r8) ?_;refine go ?_;obtain⟨iw,su,hM⟩:=bind_some hM;refine cv (fun hs=>ar8 _ _ y2.1 r4 y6.1 r8 iw su (aM hs) ⟨(kT hs),(kT hs),(kT hs),(kT hs),(kT hs),(kT hs),(kT hs)⟩ ⟨(kT hs),(kT hs),(kT hs),(kT hs),(kT hs),(kT hs),(kT hs)⟩) ?_;refine go ?_;exact aF (aZ hM)
end Go.Proofs.YtcalibhfgdncaaaGreatDoor

/- Models of functions, and that the code computes them. -/
import Derived.Test.YtcalibhfgdncaaaGreatDoorPt
import Derived.Test.YtcalibhfgdncaaaGreatDoorYb
import Derived.Test.YtcalibhfgdncaaaGreatDoorYx
import Derived.Test.YtcalibhfgdncaaaGreatDoorYf
import Derived.Test.YtcalibhfgdncaaaGreatDoorPy
set_option linter.all false
namespace Go.Proofs.YtcalibhfgdncaaaGreatDoor
open Go.Dc Go.RowKit
set_option maxRecDepth 10000
def Vf(l0:List Int):Option Bool:=
 (Qf l0).bind fun y1=>
 (Rq y1.1 y1.2).bind fun y6=>
 (Rs y1.1 y6.1).bind fun y8=>
 (Vg).bind fun ru=>
 (fV (((ru&&decide (y6.2=0))&&decide (y8.2.2=0))&&decide (y8.2.1=0)) default (Qi y1.2 y8.1)).bind fun dN=>
 some ((((ru&&decide (y6.2=0))&&decide (y8.2.2=0))&&decide (y8.2.1=0))&&dN)
theorem ama(S:bB)(w:World)(l0:List Int)(aC:ak.R (List Int))(y:Bool)(hM:Vf l0=some y)(hS:sB S w)(fG:ak.ok S w aC l0)(BU:(kR 2).φ S w)(BX:(gL 3 iC).φ S w):
  Calls Tryz.prog 8 #[sL aC l0] w (cu w (.bool y)):=by
 refine bP (args:=[_]) Tryz.func8 rfl ((pre_nil hS).start |>.bU (α:=List Int) (r:=aC) (x:=l0) fG|>.Aw (c:=kR 2) (fun _ h=>False.elim h) BU|>.Aw (c:=gL 3 iC) (fun _ h=>False.elim h) BX) rfl ?_;unfold Vf at hM;refine bD ?_;refine aO ?_;obtain⟨y1,hy2,hM⟩:=bind_some hM;refine bn (fq jw.nil (fun S w hs hP=>alP _ w l0 aC y1 hy2 hs.lt (kI hs)) (fun r3=>?_));dsimp only[cA,nA];refine om ?_;refine oe (eO (vs:=[.agg (lC y1.1 r3.1),.agg (mY y1.2 r3.2)])) ?_;refine oe (eO (vs:=[.agg (lC y1.1 r3.1),.agg (mY y1.2 r3.2)])) ?_
 refine oA rfl fun b4=>?_;refine oA rfl fun b5=>?_;refine oS b4 (dP y1.1 r3.1) ?_;refine oS b5 (gZ y1.2 r3.2) ?_;refine on ?_;refine sr ?_;refine oe (bX (b:=b4)) ?_;refine oe (bX (b:=b5)) ?_;obtain⟨y6,zq,hM⟩:=bind_some hM;refine cv (fun hs=>anw _ _ y1.1 r3.1 y1.2 r3.2 y6 zq (bC hs) ⟨(kM hs),(kM hs),(kM hs),(kM hs)⟩ ⟨(kM hs),(kM hs),(kM hs),(kM hs),(kM hs),(kM hs),(kM hs)⟩ (Chunk.mono _ _ _ _ (fun _ h=> .inl h) ((hA:Has _ (gL 3 iC)).φ hs))) ?_;refine om ?_;refine oe (eO (vs:=[.string y6.1.ba,vI y6.2])) ?_;refine oe (eO (vs:=[.string y6.1.ba,vI y6.2])) ?_
 refine oa ?_;refine aP ?_;refine sr ?_;refine oe (bX (b:=b4)) ?_;refine om ?_;obtain⟨y8,sW,hM⟩:=bind_some hM;refine bn (fq jw.nil (fun S w hs hP=>anx _ w y1.1 r3.1 y6.1 y8 sW hs.lt ⟨(kI hs),(kI hs),(kI hs),(kI hs)⟩ ((hA:Has _ (kR 2)).φ hs)) (fun yO=>?_));dsimp only[cA,nA];refine om ?_;refine oe (eO (vs:=[.agg (mY y8.1 yO),vI y8.2.1,vI y8.2.2])) ?_;refine oe (eO (vs:=[.agg (mY y8.1 yO),vI y8.2.1,vI y8.2.2])) ?_;refine oe (eO (vs:=[.agg (mY y8.1 yO),vI y8.2.1,vI y8.2.2])) ?_
 refine oA rfl fun b11=>?_;refine oS b11 (gZ y8.1 yO) ?_;refine oa ?_;refine aP ?_;refine sr ?_;obtain⟨ru,EO,hM⟩:=bind_some hM;refine cv (fun hs=>amb _ _ ru EO (bC hs)) ?_;refine om ?_;refine av rfl aH ?_;refine av rfl eu ?_;refine oe dI ?_;refine om ?_;refine av rfl aH ?_;refine av rfl eu ?_;refine oe dI ?_;refine om ?_;refine av rfl aH ?_;refine av rfl eu ?_;refine oe dI ?_;refine om ?_;refine av rfl (bX (b:=b5)) ?_;refine av rfl (bX (b:=b11)) ?_;obtain⟨dN,rJ,hM⟩:=bind_some hM;refine cg rfl (fun hg hs=>alR _ _ y1.2 r3.2 y8.1 yO dN (fu rJ hg) (bC hs) ⟨(kM hs),(kM hs),(kM hs),(kM hs),(kM hs),(kM hs),(kM hs)⟩ ⟨(kT hs),(kT hs),(kT hs),(kT hs),(kT hs),(kT hs),(kT hs)⟩) ?_
 refine oe dI ?_;refine aP ?_;exact aW (bN hM)
end Go.Proofs.YtcalibhfgdncaaaGreatDoor

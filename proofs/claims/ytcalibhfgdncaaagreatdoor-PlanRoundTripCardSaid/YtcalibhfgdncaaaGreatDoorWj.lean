/- Models of functions, and that the code computes them. -/
import Derived.Test.YtcalibhfgdncaaaGreatDoorWb
import Derived.Test.YtcalibhfgdncaaaGreatDoorWc
import Derived.Test.YtcalibhfgdncaaaGreatDoorWCut
set_option linter.all false
namespace Go.Proofs.YtcalibhfgdncaaaGreatDoor
open Go.Dc Go.RowKit
set_option maxRecDepth 10000
def TN(s0:Str):Option (Int×Int×Bool):=
 (WR s0 (⟨[46,46]⟩:Str)).bind fun y1=>
 (Ad y1.1).bind fun y3=>
 (Ad y1.2.1).bind fun y5=>
 if (((!y3.2)||(!y5.2))||decide (y5.1<y3.1)) then
  (some (0,0,false))
 else
  (some (y3.1,y5.1,true))
theorem aqf(S:bB)(w:World)(s0:Str)(y:Int×Int×Bool)(hM:TN s0=some y)(hS:sB S w)(BU:(kR 2).φ S w):
   Calls Tryz.prog 160 #[.string s0.ba] w (cu w (.tuple #[vI y.1,vI y.2.1,.bool y.2.2])):=by
 refine bP (args:=[_]) Tryz.func160 rfl ((pre_nil hS).start |>.Aw (c:=kR 2) (fun _ h=>False.elim h) BU) rfl ?_;unfold TN at hM;refine sr ?_;refine oa ?_;refine oa ?_;refine aP ?_;refine aO ?_;obtain⟨y1,hy2,hM⟩:=bind_some hM;refine cv (fun hs=>apM _ _ s0 (⟨[46,46]⟩:Str) y1 hy2 (bC hs) (Chunk.mono _ _ _ _ (fun _ h=> .inl h) ((hA:Has _ (kR 2)).φ hs))) ?_;refine om ?_;refine oe (eO (vs:=[.string y1.1.ba,.string y1.2.1.ba,.bool y1.2.2])) ?_;refine oe (eO (vs:=[.string y1.1.ba,.string y1.2.1.ba,.bool y1.2.2])) ?_;refine oe (eO (vs:=[.string y1.1.ba,.string y1.2.1.ba,.bool y1.2.2])) ?_;refine oa ?_;refine oa ?_;refine aP ?_;refine aO ?_;obtain⟨y3,hy4,hM⟩:=bind_some hM;refine cv (fun hs=>Xx _ _ y1.1 y3 hy4 (bC hs)) ?_;refine om ?_;refine oe (eO (vs:=[vI y3.1,.bool y3.2])) ?_;refine oe (eO (vs:=[vI y3.1,.bool y3.2])) ?_;refine oa ?_;refine aP ?_;refine aG fun K4 hK4=>?_
 refine aZ ?_;refine om ?_;obtain⟨y5,kU,hM⟩:=bind_some hM;refine cv (fun hs=>Xx _ _ y1.2.1 y5 kU (bC hs)) ?_;refine om ?_;refine oe (eO (vs:=[vI y5.1,.bool y5.2])) ?_;refine oe (eO (vs:=[vI y5.1,.bool y5.2])) ?_;refine oa ?_;refine oa ?_;refine bf (hK4 _ _ ?_);clear hK4;refine aG fun K5 bS=>?_;refine aO ?_;refine oe fF ?_;refine om ?_;refine av rfl aH ?_;refine av rfl fF ?_;refine oe eT ?_;refine om ?_;refine av rfl aH ?_;refine av rfl aH ?_;refine av rfl iw ?_;refine oe eT ?_;refine on ?_;refine cc rfl hM (fun jR hM=>?_) (fun jR hM=>?_)
 ·refine sr ?_;refine oa ?_;refine oa ?_;refine aP ?_;exact aW (SF hM)
 refine aX (bS _ _ ?_);clear bS;refine aO ?_;refine om ?_;refine oa ?_;refine oa ?_;refine aP ?_;exact aW (SF hM)
end Go.Proofs.YtcalibhfgdncaaaGreatDoor

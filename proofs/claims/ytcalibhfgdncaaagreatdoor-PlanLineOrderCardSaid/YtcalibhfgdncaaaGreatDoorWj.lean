/- Functions: models, proved of the code. -/
import Derived.Test.YtcalibhfgdncaaaGreatDoorWz
import Derived.Test.YtcalibhfgdncaaaGreatDoorWCut
namespace Go.Proofs.YtcalibhfgdncaaaGreatDoor
open Go.Dc Go.RowKit
attribute [local irreducible] CW OW AW AZ Ev
set_option maxHeartbeats 0
set_option maxRecDepth 10000
set_option linter.all false
def Xg(s0:Str):Option (Int×Int×Bool):=
 (aa0 s0 (⟨[46,46]⟩:Str)).bind fun y1=>
 (Hy y1.1).bind fun y3=>
 (Hy y1.2.1).bind fun y5=>
 if (((!y3.2)||(!y5.2))||decide (y5.1<y3.1)) then
  (some (0,0,false))
 else
  (some (y3.1,y5.1,true))
theorem aw1(S:aW)(w:World)(s0:Str)(y:Int×Int×Bool)(hM:Xg s0=some y)(hS:sB S w)(AO:(lY 2).φ S w):
   Calls Tryz.prog 160 #[.string s0.ba] w (bM w (.tuple #[vI y.1,vI y.2.1,.bool y.2.2])):=by
 refine bF (args:=[_]) Tryz.func160 rfl ((pre_nil hS).start |>.KX (c:=lY 2) (fun _ h=>False.elim h) AO) rfl ?_;unfold Xg at hM;refine go ?_;obtain⟨y1,hy2,hM⟩:=bind_some hM;refine cv (fun hs=>awE _ _ s0 (⟨[46,46]⟩:Str) y1 hy2 (aM hs) (Chunk.mono _ _ _ _ (fun _ h=> .inl h) ((hA:Has _ (lY 2)).φ hs))) ?_;refine om ?_;refine oe (bU (vs:=[.string y1.1.ba,.string y1.2.1.ba,.bool y1.2.2])) ?_;refine oe (bU (vs:=[.string y1.1.ba,.string y1.2.1.ba,.bool y1.2.2])) ?_;refine oe (bU (vs:=[.string y1.1.ba,.string y1.2.1.ba,.bool y1.2.2])) ?_;refine go ?_;obtain⟨y3,hy4,hM⟩:=bind_some hM;refine cv (fun hs=>abz _ _ y1.1 y3 hy4 (aM hs)) ?_;refine om ?_;refine oe (bU (vs:=[vI y3.1,.bool y3.2])) ?_;refine oe (bU (vs:=[vI y3.1,.bool y3.2])) ?_;refine oa ?_;refine aN ?_;refine au fun K4 hK4=>?_;refine bg ?_;refine om ?_;obtain⟨y5,jW,hM⟩:=bind_some hM;refine cv (fun hs=>abz _ _ y1.2.1 y5 jW (aM hs)) ?_;refine om ?_;refine oe (bU (vs:=[vI y5.1,.bool y5.2])) ?_;refine oe (bU (vs:=[vI y5.1,.bool y5.2])) ?_;refine oa ?_;refine oa ?_;refine bq (hK4 _ _ ?_);refine au fun K5 dx=>?_;refine go ?_;refine co hM (fun jr hM=>?_) (fun jr hM=>?_)
 ·refine go ?_;exact aF (JO hM)
 refine cs dx ?_;refine go ?_;exact aF (JO hM)
end Go.Proofs.YtcalibhfgdncaaaGreatDoor

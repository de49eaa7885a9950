/- Models of functions, and that the code computes them. -/
import Derived.Test.YtcalibhfgdncaaaGreatTypes
set_option linter.all false
namespace Go.Proofs.YtcalibhfgdncaaaGreat
open Go.Dc Go.RowKit
set_option maxRecDepth 10000
def WV(c0:Int):Option Bool:=
 some (decide (48≤c0)&&decide (c0≤57))
theorem an0(S:bF)(w:World)(c0:Int)(y:Bool)(hM:WV c0=some y)(hS:sB S w):
  Calls Tryz.prog 102 #[.int .u8 c0] w (dw w (.bool y)):=by
 refine bW (args:=[_]) Tryz.func102 rfl ((pre_nil hS).start) rfl ?_;unfold WV at hM;refine bg ?_;refine aJ ?_;refine oe ig ?_;refine om ?_;refine au rfl aH ?_;refine au rfl kD ?_;refine oe dB ?_;refine aL ?_;exact aP (bD hM)
def Sr(c0:Int):Option Bool:=
 some ((decide (65≤c0)&&decide (c0≤90))||(decide (97≤c0)&&decide (c0≤122)))
theorem agZ(S:bF)(w:World)(c0:Int)(y:Bool)(hM:Sr c0=some y)(hS:sB S w):
  Calls Tryz.prog 101 #[.int .u8 c0] w (dw w (.bool y)):=by
 refine bW (args:=[_]) Tryz.func101 rfl ((pre_nil hS).start) rfl ?_;unfold Sr at hM;refine bg ?_;refine aJ ?_;refine oe ig ?_;refine om ?_;refine au rfl aH ?_;refine au rfl kD ?_;refine oe dB ?_;refine om ?_;refine au rfl aH ?_;refine au rfl ig ?_;refine au rfl aH ?_;refine au rfl aH ?_;refine au rfl kD ?_;refine au rfl dB ?_;refine oe bP ?_;refine aL ?_;exact aP (bD hM)
def agX:Unit→Option Bool:=fun _=>
 some true
def Sq(s0:Str)(aN:Nat→Option Bool):Nat→Option Bool:=fun sF=>
 if decide ((sF:Int)<(s0.l.length:Int)) then
  ((Au s0 (sF:Int)).bind fun c8=>
  (Sr c8).bind fun iG=>
  (dW (!iG) 0 (Au s0 (sF:Int))).bind fun c12=>
  (dW (!iG) default (WV c12)).bind fun bZ=>
  (dW ((!iG)&&(!bZ)) 0 (Au s0 (sF:Int))).bind fun c16=>
  if (((!iG)&&(!bZ))&&decide (c16≠95)) then
   (some false)
  else
   (aN (sF+1)))
 else
  (agX ())
def NT(s0:Str):Option Bool:=
 (dW (!(decide ((s0.l.length:Int)<1)||decide (12<(s0.l.length:Int)))) 0 (Au s0 0)).bind fun c1=>
 (dW (!(decide ((s0.l.length:Int)<1)||decide (12<(s0.l.length:Int)))) default (Sr c1)).bind fun y3=>
 if ((decide ((s0.l.length:Int)<1)||decide (12<(s0.l.length:Int)))||(!y3)) then
  (some false)
 else
  (aX (decide ((s0.l.length:Int)≤9223372036854775807))<|
  iter (Sq s0) FUEL 0)
theorem agY(S:bF)(w:World)(s0:Str)(y:Bool)(hM:NT s0=some y)(hS:sB S w):
   Calls Tryz.prog 65 #[.string s0.ba] w (dw w (.bool y)):=by
 refine bW (args:=[_]) Tryz.func65 rfl ((pre_nil hS).start) rfl ?_;unfold NT at hM;refine bg ?_;refine aF fun K2 hK2=>?_;refine aJ ?_;refine oe Le ?_;refine oe bK ?_;refine om ?_;refine au rfl aH ?_;refine au rfl Le ?_;refine au rfl eO ?_;refine oe bP ?_;refine om ?_;refine au rfl aH ?_;obtain⟨c1,YU,hM⟩:=bind_some hM;refine au rfl (GY (dF YU)) ?_;obtain⟨y3,hy4,hM⟩:=bind_some hM;refine cg rfl (fun hg hs=>agZ _ _ c1 y3 (dF hy4 hg) (bq hs)) ?_;refine au rfl dN ?_;refine oe bP ?_;refine on ?_;refine cc rfl hM (fun jO hM=>?_) (fun jO hM=>?_)
 ·refine bg ?_;exact aP (bD hM)
 refine aM (hK2 _ _ ?_);clear hK2;refine aF fun K5 bT=>?_;refine aJ ?_;obtain⟨Ud,hM⟩:=bQ hM;replace Ud:=of_decide_eq_true Ud;refine oe Le ?_;refine om ?_;refine on ?_;refine aV ?_;refine lq hM (fun sF=>[(0,.v (.string s0.ba)),(19,eI (s0.l.length:Int)),(20,eI (sF:Int))]) (fun sF=>[]) sS rI ?_;clear hM;rintro aN sF hM fQ hL1;dsimp only[Sq] at hM ⊢;refine sr ?_;refine oe bK ?_;refine on ?_;refine aF fun K8 fu=>?_;refine cc rfl hM (fun lY hM=>?_) (fun lY hM=>?_)
 ·have ad7:=of_decide_eq_true lY;refine aM (fu _ _ ?_);clear fu;refine aF fun K9 dY=>?_;refine aV ?_;refine aJ ?_;refine aL ?_;refine aJ ?_;refine om ?_;obtain⟨c8,akb,hM⟩:=bind_some hM;refine oe (GY (fun _=>akb)) ?_;obtain⟨iG,tN,hM⟩:=bind_some hM;refine cv (fun hs=>agZ _ _ c8 iG tN (bq hs)) ?_;refine oe dN ?_;refine om ?_;refine au rfl aH ?_;refine au rfl aH ?_;obtain⟨c12,aj6,hM⟩:=bind_some hM;refine au rfl (GY (dF aj6)) ?_;obtain⟨bZ,pX,hM⟩:=bind_some hM;refine cg rfl (fun hg hs=>an0 _ _ c12 bZ (dF pX hg) (bq hs)) ?_;refine au rfl dN ?_;refine oe dB ?_;refine om ?_;refine au rfl aH ?_;refine au rfl aH ?_;obtain⟨c16,aj8,hM⟩:=bind_some hM;refine au rfl (GY (dF aj8)) ?_;refine au rfl gH ?_;refine oe dB ?_;refine on ?_;refine cc rfl hM (fun hc18 hM=>?_) (fun hc18 hM=>?_)
  · refine bg ?_;exact aP (bD hM)
  refine aM (dY _ _ ?_);clear dY;refine aT ?_;refine oe (dh (hr:=fun _=>by unfold dS;omega)) ?_;refine om ?_;refine aU (hL1 hM sS rI)
 refine bX (bT _ _ ?_);clear bT;dsimp only[agX] at hM;refine bg ?_;exact aP (bD hM)
end Go.Proofs.YtcalibhfgdncaaaGreat

/- Models of functions, and that the code computes them. -/
import Derived.Test.YtcalibhfgdncaaaGreatDoorTypes
set_option linter.all false
namespace Go.Proofs.YtcalibhfgdncaaaGreatDoor
open Go.Dc Go.RowKit
set_option maxRecDepth 10000
def Xy(c0:Int):Bool→Option Int:=fun TB=>
 if TB then
  (some 1)
 else
  (if decide (c0=10) then
   (some 2)
  else
   (if decide (c0=35) then
    (some 3)
   else
    (if (decide (33≤c0)&&decide (c0≤126)) then
     (some 4)
    else
     (some 0))))
def KD(c0:Int):Option Int:=
 if decide (c0=32) then
  (Xy c0 (decide (c0=32)))
 else
  (Xy c0 (decide (c0=9)))
theorem aha(S:bB)(w:World)(c0:Int)(y:Int)(hM:KD c0=some y)(hS:sB S w):
   Calls Tryz.prog 154 #[.int .u8 c0] w (cu w (vI y)):=by
 refine bP (args:=[_]) Tryz.func154 rfl ((pre_nil hS).start) rfl ?_;unfold KD at hM;refine bD ?_;refine aG fun K2 hK2=>?_;refine bF ?_;refine jm y (k:=Xy c0) (fun TB=>[(0,.v (.int .u8 c0)),(3,.v (.bool TB))]) (fun TB=>[]) ?_ ?_
 ·intro wX fB;refine aO ?_;refine oe eu ?_;refine aP ?_;refine cc rfl hM (fun jA hM=>?_) (fun jA hM=>?_)
  · refine aX (fB hM sS rI)
  refine aZ ?_;refine om ?_;refine oe eu ?_;refine oa ?_;refine bf (fB hM sS rI)
 clear hM;rintro TB hM;dsimp only[Xy] at hM ⊢;refine cc rfl hM (fun hc1 hM=>?_) (fun hc1 hM=>?_)
 ·refine bD ?_;exact aW (bN hM)
 refine aO ?_;refine oe eu ?_;refine aP ?_;refine cc rfl hM (fun hc2 hM=>?_) (fun hc2 hM=>?_)
 ·refine bD ?_;exact aW (bN hM)
 refine aO ?_;refine oe eu ?_;refine aP ?_;refine cc rfl hM (fun hc3 hM=>?_) (fun hc3 hM=>?_)
 ·refine bD ?_;exact aW (bN hM)
 refine aO ?_;refine oe jf ?_;refine om ?_;refine av rfl aH ?_;refine av rfl pU ?_;refine oe dI ?_;refine aP ?_;refine cc rfl hM (fun hc4 hM=>?_) (fun hc4 hM=>?_)
 ·refine bD ?_;exact aW (bN hM)
 refine aX (hK2 _ _ ?_);clear hK2;refine bD ?_;exact aW (bN hM)
def KE(c0:Int):Option Bool:=
 some (decide (48≤c0)&&decide (c0≤57))
theorem ahb(S:bB)(w:World)(c0:Int)(y:Bool)(hM:KE c0=some y)(hS:sB S w):
  Calls Tryz.prog 135 #[.int .u8 c0] w (cu w (.bool y)):=by
 refine bP (args:=[_]) Tryz.func135 rfl ((pre_nil hS).start) rfl ?_;unfold KE at hM;refine bD ?_;refine aO ?_;refine oe jf ?_;refine om ?_;refine av rfl aH ?_;refine av rfl pU ?_;refine oe dI ?_;refine aP ?_;exact aW (bN hM)
def TP(c0:Int):Option Bool:=
 some ((decide (65≤c0)&&decide (c0≤90))||(decide (97≤c0)&&decide (c0≤122)))
theorem ahc(S:bB)(w:World)(c0:Int)(y:Bool)(hM:TP c0=some y)(hS:sB S w):
  Calls Tryz.prog 134 #[.int .u8 c0] w (cu w (.bool y)):=by
 refine bP (args:=[_]) Tryz.func134 rfl ((pre_nil hS).start) rfl ?_;unfold TP at hM;refine bD ?_;refine aO ?_;refine oe jf ?_;refine om ?_;refine av rfl aH ?_;refine av rfl pU ?_;refine oe dI ?_;refine om ?_;refine av rfl aH ?_;refine av rfl jf ?_;refine av rfl aH ?_;refine av rfl aH ?_;refine av rfl pU ?_;refine av rfl dI ?_;refine oe eT ?_;refine aP ?_;exact aW (bN hM)
def ag7:Unit→Option Bool:=fun _=>
 some true
def TM(s0:Str)(aY:Nat→Option Bool):Nat→Option Bool:=fun uL=>
 if decide ((uL:Int)<(s0.l.length:Int)) then
  ((lX s0 (uL:Int)).bind fun c8=>
  (TP c8).bind fun jC=>
  (fV (!jC) 0 (lX s0 (uL:Int))).bind fun c12=>
  (fV (!jC) default (KE c12)).bind fun dN=>
  (fV ((!jC)&&(!dN)) 0 (lX s0 (uL:Int))).bind fun c16=>
  if (((!jC)&&(!dN))&&decide (c16≠95)) then
   (some false)
  else
   (aY (uL+1)))
 else
  (ag7 ())
def NY(s0:Str):Option Bool:=
 (fV (!(decide ((s0.l.length:Int)<1)||decide (12<(s0.l.length:Int)))) 0 (lX s0 0)).bind fun c1=>
 (fV (!(decide ((s0.l.length:Int)<1)||decide (12<(s0.l.length:Int)))) default (TP c1)).bind fun y3=>
 if ((decide ((s0.l.length:Int)<1)||decide (12<(s0.l.length:Int)))||(!y3)) then
  (some false)
 else
  (bG (decide ((s0.l.length:Int)≤9223372036854775807))<|
  iter (TM s0) FUEL 0)
theorem ag8(S:bB)(w:World)(s0:Str)(y:Bool)(hM:NY s0=some y)(hS:sB S w):
   Calls Tryz.prog 78 #[.string s0.ba] w (cu w (.bool y)):=by
 refine bP (args:=[_]) Tryz.func78 rfl ((pre_nil hS).start) rfl ?_;unfold NY at hM;refine bD ?_;refine aG fun K2 hK2=>?_;refine aO ?_;refine oe mZ ?_;refine oe cO ?_;refine om ?_;refine av rfl aH ?_;refine av rfl mZ ?_;refine av rfl iw ?_;refine oe eT ?_;refine om ?_;refine av rfl aH ?_;obtain⟨c1,PD,hM⟩:=bind_some hM;refine av rfl (qp (fu PD)) ?_;obtain⟨y3,hy4,hM⟩:=bind_some hM;refine cg rfl (fun hg hs=>ahc _ _ c1 y3 (fu hy4 hg) (bC hs)) ?_;refine av rfl fF ?_;refine oe eT ?_;refine on ?_;refine cc rfl hM (fun jA hM=>?_) (fun jA hM=>?_)
 ·refine bD ?_;exact aW (bN hM)
 refine aX (hK2 _ _ ?_);clear hK2;refine aG fun K5 bS=>?_;refine aO ?_;obtain⟨PI,hM⟩:=dw hM;replace PI:=of_decide_eq_true PI;refine oe mZ ?_;refine om ?_;refine on ?_;refine bF ?_;refine lq hM (fun uL=>[(0,.v (.string s0.ba)),(19,eI (s0.l.length:Int)),(20,eI (uL:Int))]) (fun uL=>[]) sS rI ?_;clear hM;rintro aY uL hM gu hL1;dsimp only[TM] at hM ⊢;refine sr ?_;refine oe cO ?_;refine on ?_;refine aG fun K8 eZ=>?_;refine cc rfl hM (fun jR hM=>?_) (fun jR hM=>?_)
 ·have akj:=of_decide_eq_true jR;refine aX (eZ _ _ ?_);clear eZ;refine aG fun K9 dU=>?_;refine bF ?_;refine aO ?_;refine aP ?_;refine aO ?_;refine om ?_;obtain⟨c8,PE,hM⟩:=bind_some hM;refine oe (qp (fun _=>PE)) ?_;obtain⟨jC,xB,hM⟩:=bind_some hM;refine cv (fun hs=>ahc _ _ c8 jC xB (bC hs)) ?_;refine oe fF ?_;refine om ?_;refine av rfl aH ?_;refine av rfl aH ?_;obtain⟨c12,akn,hM⟩:=bind_some hM;refine av rfl (qp (fu akn)) ?_;obtain⟨dN,rJ,hM⟩:=bind_some hM;refine cg rfl (fun hg hs=>ahb _ _ c12 dN (fu rJ hg) (bC hs)) ?_;refine av rfl fF ?_;refine oe dI ?_;refine om ?_;refine av rfl aH ?_;refine av rfl aH ?_;obtain⟨c16,akq,hM⟩:=bind_some hM;refine av rfl (qp (fu akq)) ?_;refine av rfl iy ?_;refine oe dI ?_;refine on ?_;refine cc rfl hM (fun hc18 hM=>?_) (fun hc18 hM=>?_)
  · refine bD ?_;exact aW (bN hM)
  refine aX (dU _ _ ?_);clear dU;refine aZ ?_;refine oe (dH (hr:=fun _=>by unfold d9;omega)) ?_;refine om ?_;refine bf (hL1 hM sS rI)
 refine dL (bS _ _ ?_);clear bS;dsimp only[ag7] at hM;refine bD ?_;exact aW (bN hM)
end Go.Proofs.YtcalibhfgdncaaaGreatDoor

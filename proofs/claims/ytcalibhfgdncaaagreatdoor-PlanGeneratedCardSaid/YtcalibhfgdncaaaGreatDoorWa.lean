/- Models of functions, and that the code computes them. -/
import Derived.Test.YtcalibhfgdncaaaGreatDoorTypes
set_option linter.all false
namespace Go.Proofs.YtcalibhfgdncaaaGreatDoor
open Go.Dc Go.RowKit
set_option maxRecDepth 10000
def Yc(c0:Int):Bool→Option Int:=fun Ui=>
 if Ui then
  (some 1)
 else
  (if decide (c0=10) then
   (some 2)
  else
   (if decide (c0=35) then
    (some 3)
   else
    (if (decide (33≤c0)&&decide (c0≤126)) then
     (some 4)
    else
     (some 0))))
def OY(c0:Int):Option Int:=
 if decide (c0=32) then
  (Yc c0 (decide (c0=32)))
 else
  (Yc c0 (decide (c0=9)))
theorem arZ(S:bO)(w:World)(c0:Int)(y:Int)(hM:OY c0=some y)(hS:sB S w):
   Calls Tryz.prog 154 #[.int .u8 c0] w (dz w (vI y)):=by
 refine cu (args:=[_]) Tryz.func154 rfl ((pre_nil hS).start) rfl ?_;unfold OY at hM;refine bI ?_;refine aK fun K2 hK2=>?_;refine bH ?_;refine jm y (k:=Yc c0) (fun Ui=>[(0,.v (.int .u8 c0)),(3,.v (.bool Ui))]) (fun Ui=>[]) ?_ ?_
 ·intro zB fu;refine aW ?_;refine oe dU ?_;refine aT ?_;refine cc rfl hM (fun jL hM=>?_) (fun jL hM=>?_)
  · refine aX (fu hM sS rI)
  refine bB ?_;refine om ?_;refine oe dU ?_;refine oa ?_;refine bC (fu hM sS rI)
 clear hM;rintro Ui hM;dsimp only[Yc] at hM ⊢;refine cc rfl hM (fun hc1 hM=>?_) (fun hc1 hM=>?_)
 ·refine bI ?_;exact aY (bQ hM)
 refine aW ?_;refine oe dU ?_;refine aT ?_;refine cc rfl hM (fun hc2 hM=>?_) (fun hc2 hM=>?_)
 ·refine bI ?_;exact aY (bQ hM)
 refine aW ?_;refine oe dU ?_;refine aT ?_;refine cc rfl hM (fun hc3 hM=>?_) (fun hc3 hM=>?_)
 ·refine bI ?_;exact aY (bQ hM)
 refine aW ?_;refine oe jK ?_;refine om ?_;refine aD rfl aL ?_;refine aD rfl oI ?_;refine oe dG ?_;refine aT ?_;refine cc rfl hM (fun hc4 hM=>?_) (fun hc4 hM=>?_)
 ·refine bI ?_;exact aY (bQ hM)
 refine aX (hK2 _ _ ?_);clear hK2;refine bI ?_;exact aY (bQ hM)
def Yd(c0:Int):Option Bool:=
 some (decide (48≤c0)&&decide (c0≤57))
theorem ar0(S:bO)(w:World)(c0:Int)(y:Bool)(hM:Yd c0=some y)(hS:sB S w):
  Calls Tryz.prog 135 #[.int .u8 c0] w (dz w (.bool y)):=by
 refine cu (args:=[_]) Tryz.func135 rfl ((pre_nil hS).start) rfl ?_;unfold Yd at hM;refine bI ?_;refine aW ?_;refine oe jK ?_;refine om ?_;refine aD rfl aL ?_;refine aD rfl oI ?_;refine oe dG ?_;refine aT ?_;exact aY (bQ hM)
def Ut(c0:Int):Option Bool:=
 some ((decide (65≤c0)&&decide (c0≤90))||(decide (97≤c0)&&decide (c0≤122)))
theorem ain(S:bO)(w:World)(c0:Int)(y:Bool)(hM:Ut c0=some y)(hS:sB S w):
  Calls Tryz.prog 134 #[.int .u8 c0] w (dz w (.bool y)):=by
 refine cu (args:=[_]) Tryz.func134 rfl ((pre_nil hS).start) rfl ?_;unfold Ut at hM;refine bI ?_;refine aW ?_;refine oe jK ?_;refine om ?_;refine aD rfl aL ?_;refine aD rfl oI ?_;refine oe dG ?_;refine om ?_;refine aD rfl aL ?_;refine aD rfl jK ?_;refine aD rfl aL ?_;refine aD rfl aL ?_;refine aD rfl oI ?_;refine aD rfl dG ?_;refine oe dQ ?_;refine aT ?_;exact aY (bQ hM)
def aik:Unit→Option Bool:=fun _=>
 some true
def Us(s0:Str)(bA:Nat→Option Bool):Nat→Option Bool:=fun FY=>
 if decide ((FY:Int)<(s0.l.length:Int)) then
  ((pK s0 (FY:Int)).bind fun c8=>
  (Ut c8).bind fun jd=>
  (fK (!jd) 0 (pK s0 (FY:Int))).bind fun c12=>
  (fK (!jd) default (Yd c12)).bind fun eG=>
  (fK ((!jd)&&(!eG)) 0 (pK s0 (FY:Int))).bind fun c16=>
  if (((!jd)&&(!eG))&&decide (c16≠95)) then
   (some false)
  else
   (bA (FY+1)))
 else
  (aik ())
def OX(s0:Str):Option Bool:=
 (fK (!(decide ((s0.l.length:Int)<1)||decide (12<(s0.l.length:Int)))) 0 (pK s0 0)).bind fun c1=>
 (fK (!(decide ((s0.l.length:Int)<1)||decide (12<(s0.l.length:Int)))) default (Ut c1)).bind fun y3=>
 if ((decide ((s0.l.length:Int)<1)||decide (12<(s0.l.length:Int)))||(!y3)) then
  (some false)
 else
  (bq (decide ((s0.l.length:Int)≤9223372036854775807))<|
  iter (Us s0) FUEL 0)
theorem ail(S:bO)(w:World)(s0:Str)(y:Bool)(hM:OX s0=some y)(hS:sB S w):
   Calls Tryz.prog 78 #[.string s0.ba] w (dz w (.bool y)):=by
 refine cu (args:=[_]) Tryz.func78 rfl ((pre_nil hS).start) rfl ?_;unfold OX at hM;refine bI ?_;refine aK fun K2 hK2=>?_;refine aW ?_;refine oe vO ?_;refine oe bY ?_;refine om ?_;refine aD rfl aL ?_;refine aD rfl vO ?_;refine aD rfl gM ?_;refine oe dQ ?_;refine om ?_;refine aD rfl aL ?_;obtain⟨c1,QA,hM⟩:=bind_some hM;refine aD rfl (tT (eF QA)) ?_;obtain⟨y3,hy4,hM⟩:=bind_some hM;refine cg rfl (fun hg hs=>ain _ _ c1 y3 (eF hy4 hg) (bf hs)) ?_;refine aD rfl fq ?_;refine oe dQ ?_;refine on ?_;refine cc rfl hM (fun jL hM=>?_) (fun jL hM=>?_)
 ·refine bI ?_;exact aY (bQ hM)
 refine aX (hK2 _ _ ?_);clear hK2;refine aK fun K5 dI=>?_;refine aW ?_;obtain⟨hl6,hM⟩:=bW hM;replace hl6:=of_decide_eq_true hl6;refine oe vO ?_;refine om ?_;refine on ?_;refine bH ?_;refine lq hM (fun FY=>[(0,.v (.string s0.ba)),(19,eI (s0.l.length:Int)),(20,eI (FY:Int))]) (fun FY=>[]) sS rI ?_;clear hM;rintro bA FY hM iG hL1;dsimp only[Us] at hM ⊢;refine sr ?_;refine oe bY ?_;refine on ?_;refine aK fun K8 gV=>?_;refine cc rfl hM (fun oJ hM=>?_) (fun oJ hM=>?_)
 ·have asr:=of_decide_eq_true oJ;refine aX (gV _ _ ?_);clear gV;refine aK fun K9 gB=>?_;refine bH ?_;refine aW ?_;refine aT ?_;refine aW ?_;refine om ?_;obtain⟨c8,ZL,hM⟩:=bind_some hM;refine oe (tT (fun _=>ZL)) ?_;obtain⟨jd,tZ,hM⟩:=bind_some hM;refine cv (fun hs=>ain _ _ c8 jd tZ (bf hs)) ?_;refine oe fq ?_;refine om ?_;refine aD rfl aL ?_;refine aD rfl aL ?_;obtain⟨c12,al6,hM⟩:=bind_some hM;refine aD rfl (tT (eF al6)) ?_;obtain⟨eG,uf,hM⟩:=bind_some hM;refine cg rfl (fun hg hs=>ar0 _ _ c12 eG (eF uf hg) (bf hs)) ?_;refine aD rfl fq ?_;refine oe dG ?_;refine om ?_;refine aD rfl aL ?_;refine aD rfl aL ?_;obtain⟨c16,al8,hM⟩:=bind_some hM;refine aD rfl (tT (eF al8)) ?_;refine aD rfl gZ ?_;refine oe dG ?_;refine on ?_;refine cc rfl hM (fun hc18 hM=>?_) (fun hc18 hM=>?_)
  · refine bI ?_;exact aY (bQ hM)
  refine aX (gB _ _ ?_);clear gB;refine bB ?_;refine oe (eH (hr:=fun _=>by unfold gF;omega)) ?_;refine om ?_;refine bC (hL1 hM sS rI)
 refine dK (dI _ _ ?_);clear dI;dsimp only[aik] at hM;refine bI ?_;exact aY (bQ hM)
end Go.Proofs.YtcalibhfgdncaaaGreatDoor

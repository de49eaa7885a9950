/- Functions: models, proved of the code. -/
import Derived.Test.YtcalibhfgdncaaaGreatDoorOf
namespace Go.Proofs.YtcalibhfgdncaaaGreatDoor
open Go.Dc Go.RowKit
attribute [local irreducible] CW OW AW AZ Ev
set_option maxHeartbeats 0
set_option maxRecDepth 10000
set_option linter.all false
def abA(c0:Int):Bool→Option Int:=fun WZ=>
 if WZ then
  (some 1)
 else
  (if decide (c0=10) then
   (some 2)
  else
   (if decide (c0=35) then
    (some 3)
   else
    (if (decide (33≤c0)&&decide (c0≤126)) then
     (some 4)
    else
     (some 0))))
def Xh(c0:Int):Option Int:=
 if decide (c0=32) then
  (abA c0 (decide (c0=32)))
 else
  (abA c0 (decide (c0=9)))
theorem aw2(S:aW)(w:World)(c0:Int)(y:Int)(hM:Xh c0=some y)(hS:sB S w):
   Calls Tryz.prog 154 #[.int .u8 c0] w (bM w (vI y)):=by
 refine bF (args:=[_]) Tryz.func154 rfl ((pre_nil hS).start) rfl ?_;unfold Xh at hM;refine aJ ?_;refine au fun K2 hK2=>?_;refine bI ?_;refine jl y (k:=abA c0) [0] (fun WZ=>[(3,.v (.bool WZ))]) [] (fun WZ=>[]) ?_ ?_
 ·intro rM dK;refine go ?_;refine co hM (fun iH hM=>?_) (fun iH hM=>?_)
  · refine gG (dK hM sS rI)
  refine bg ?_;refine om ?_;refine oe oK ?_;refine oa ?_;refine bq (dK hM sS rI)
 clear hM;rintro WZ hM;dsimp only[abA,cA,nA] at hM ⊢;refine co hM (fun hc1 hM=>?_) (fun hc1 hM=>?_)
 ·refine aJ ?_;exact aF (aZ hM)
 refine go ?_;refine co hM (fun hc2 hM=>?_) (fun hc2 hM=>?_)
 ·refine aJ ?_;exact aF (aZ hM)
 refine go ?_;refine co hM (fun hc3 hM=>?_) (fun hc3 hM=>?_)
 ·refine aJ ?_;exact aF (aZ hM)
 refine go ?_;refine co hM (fun hc4 hM=>?_) (fun hc4 hM=>?_)
 ·refine aJ ?_;exact aF (aZ hM)
 refine cs hK2 ?_;refine aJ ?_;exact aF (aZ hM)
def Nw(c0:Int):Option Bool:=
 some (decide (48≤c0)&&decide (c0≤57))
theorem aly(S:aW)(w:World)(c0:Int)(y:Bool)(hM:Nw c0=some y)(hS:sB S w):
  Calls Tryz.prog 135 #[.int .u8 c0] w (bM w (.bool y)):=by
 refine bF (args:=[_]) Tryz.func135 rfl ((pre_nil hS).start) rfl ?_;unfold Nw at hM;refine go ?_;exact aF (aZ hM)
def Xi(c0:Int):Option Bool:=
 some ((decide (65≤c0)&&decide (c0≤90))||(decide (97≤c0)&&decide (c0≤122)))
theorem alz(S:aW)(w:World)(c0:Int)(y:Bool)(hM:Xi c0=some y)(hS:sB S w):
  Calls Tryz.prog 134 #[.int .u8 c0] w (bM w (.bool y)):=by
 refine bF (args:=[_]) Tryz.func134 rfl ((pre_nil hS).start) rfl ?_;unfold Xi at hM;refine go ?_;exact aF (aZ hM)
def alu:Unit→Option Bool:=fun _=>
 some true
def Xe(s0:Str)(aK:Nat→Option Bool):Nat→Option Bool:=fun wW=>
 if decide ((wW:Int)<(s0.l.length:Int)) then
  ((kD s0 (wW:Int)).bind fun c8=>
  (Xi c8).bind fun iw=>
  (dH (!iw) 0 (kD s0 (wW:Int))).bind fun c12=>
  (dH (!iw) default (Nw c12)).bind fun eZ=>
  (dH ((!iw)&&(!eZ)) 0 (kD s0 (wW:Int))).bind fun c16=>
  if (((!iw)&&(!eZ))&&decide (c16≠95)) then
   (some false)
  else
   (aK (wW+1)))
 else
  (alu ())
def QW(s0:Str):Option Bool:=
 (dH (!(decide ((s0.l.length:Int)<1)||decide (12<(s0.l.length:Int)))) 0 (kD s0 0)).bind fun c1=>
 (dH (!(decide ((s0.l.length:Int)<1)||decide (12<(s0.l.length:Int)))) default (Xi c1)).bind fun y3=>
 if ((decide ((s0.l.length:Int)<1)||decide (12<(s0.l.length:Int)))||(!y3)) then
  (some false)
 else
  (aO (decide ((s0.l.length:Int)≤9223372036854775807))<|
  iter (Xe s0) FUEL 0)
theorem alv(S:aW)(w:World)(s0:Str)(y:Bool)(hM:QW s0=some y)(hS:sB S w):
   Calls Tryz.prog 78 #[.string s0.ba] w (bM w (.bool y)):=by
 refine bF (args:=[_]) Tryz.func78 rfl ((pre_nil hS).start) rfl ?_;unfold QW at hM;refine aJ ?_;refine au fun K2 hK2=>?_;refine go ?_;obtain⟨c1,SI,hM⟩:=bind_some hM;refine bY rfl (pV (cu SI)) ?_;obtain⟨y3,hy4,hM⟩:=bind_some hM;refine cg rfl (fun hg hs=>alz _ _ c1 y3 (cu hy4 hg) (aM hs)) ?_;refine bY rfl iC ?_;refine oe rT ?_;refine oc hM (fun iH hM=>?_) (fun iH hM=>?_)
 ·refine aJ ?_;exact aF (aZ hM)
 refine cs hK2 ?_;refine au fun K5 dx=>?_;refine aR ?_;obtain⟨SQ,hM⟩:=bQ hM;replace SQ:=of_decide_eq_true SQ;refine go ?_;refine lk hM [0,19] (fun wW=>[(20,eI (wW:Int))]) [] (fun wW=>[]) ?_;clear hM;rintro aK wW hM eO hL1;dsimp only[Xe,cA,nA] at hM ⊢;refine sr ?_;refine oe gq ?_;refine on ?_;refine au fun K8 gP=>?_;refine co hM (fun jr hM=>?_) (fun jr hM=>?_)
 ·have ape:=of_decide_eq_true jr;refine cs gP ?_;refine au fun K9 fH=>?_;refine go ?_;obtain⟨c8,SL,hM⟩:=bind_some hM;refine oe (pV (fun _=>SL)) ?_;obtain⟨iw,su,hM⟩:=bind_some hM;refine cv (fun hs=>alz _ _ c8 iw su (aM hs)) ?_;refine go ?_;obtain⟨c12,apj,hM⟩:=bind_some hM;refine bY rfl (pV (cu apj)) ?_;obtain⟨eZ,uz,hM⟩:=bind_some hM;refine cg rfl (fun hg hs=>aly _ _ c12 eZ (cu uz hg) (aM hs)) ?_;refine go ?_;obtain⟨c16,apm,hM⟩:=bind_some hM;refine bY rfl (pV (cu apm)) ?_;refine go ?_;refine co hM (fun hc18 hM=>?_) (fun hc18 hM=>?_)
  · refine aJ ?_;exact aF (aZ hM)
  refine cs fH ?_;refine bg ?_;refine oe (dP (hr:=fun _=>by unfold gN;omega)) ?_;refine om ?_;refine bq (hL1 hM sS rI)
 refine cx dx ?_;dsimp only[alu] at hM;refine aJ ?_;exact aF (aZ hM)
end Go.Proofs.YtcalibhfgdncaaaGreatDoor

/- Models of functions, and that the code computes them. -/
import Derived.Test.YtcalibhfgdncaaaGreatDoorWa
set_option linter.all false
namespace Go.Proofs.YtcalibhfgdncaaaGreatDoor
open Go.Dc Go.RowKit
set_option maxRecDepth 10000
def Tm(s0:Str)(qV:Str):Option Bool:=
 (fV (decide ((qV.l.length:Int)≤(s0.l.length:Int))) default (mo s0 0 (qV.l.length:Int))).bind fun q1=>
 some (decide ((qV.l.length:Int)≤(s0.l.length:Int))&&decide (q1=qV))
theorem apV(S:bB)(w:World)(s0:Str)(qV:Str)(y:Bool)(hM:Tm s0 qV=some y)(hS:sB S w):
  Calls Tryz.prog 207 #[.string s0.ba,.string qV.ba] w (cu w (.bool y)):=by
 refine bP (args:=[_,_]) Tryz.func207 rfl ((pre_nil hS).start) rfl ?_;unfold Tm at hM;refine bD ?_;refine aO ?_;refine oe mZ ?_;refine om ?_;refine oe mZ ?_;refine oe jf ?_;refine om ?_;refine av rfl aH ?_;refine av rfl aH ?_;refine av rfl mZ ?_;obtain⟨q1,hq2,hM⟩:=bind_some hM;refine av rfl (Av (ol:=none) (oh:=some (.i64,(qV.l.length:Int))) (fu hq2)) ?_;refine av rfl aH ?_;refine av rfl mF ?_;refine oe dI ?_;refine aP ?_;exact aW (bN hM)
def Tk(s0:Str)(qV:Str):Option (Str×Bool):=
 (Tm s0 qV).bind fun y1=>
 if (!y1) then
  (some (s0,false))
 else
  ((mo s0 (qV.l.length:Int) (s0.l.length:Int)).bind fun q4=>
  some (q4,true))
theorem apT(S:bB)(w:World)(s0:Str)(qV:Str)(y:Str×Bool)(hM:Tk s0 qV=some y)(hS:sB S w):
   Calls Tryz.prog 197 #[.string s0.ba,.string qV.ba] w (cu w (.tuple #[.string y.1.ba,.bool y.2])):=by
 refine bP (args:=[_,_]) Tryz.func197 rfl ((pre_nil hS).start) rfl ?_;unfold Tk at hM;refine sr ?_;refine oa ?_;refine aP ?_;refine aG fun K2 hK2=>?_;refine aO ?_;refine om ?_;obtain⟨y1,hy2,hM⟩:=bind_some hM;refine cv (fun hs=>apV _ _ s0 qV y1 hy2 (bC hs)) ?_;refine oe fF ?_;refine on ?_;refine cc rfl hM (fun hc3 hM=>?_) (fun hc3 hM=>?_)
 ·refine aO ?_;refine oa ?_;refine aP ?_;exact aW (vH hM)
 refine aX (hK2 _ _ ?_);clear hK2;refine aO ?_;refine om ?_;refine oe mZ ?_;obtain⟨q4,PL,hM⟩:=bind_some hM;refine oe (Av (ol:=some (.i64,(qV.l.length:Int))) (oh:=none) (fun _=>PL)) ?_;refine oa ?_;refine aP ?_;exact aW (vH hM)
def D6(s0:Str)(qV:Str):Option (Str×Bool):=
 (Tk s0 qV).bind fun y1=>
 some (y1.1,y1.2)
theorem apN(S:bB)(w:World)(s0:Str)(qV:Str)(y:Str×Bool)(hM:D6 s0 qV=some y)(hS:sB S w):
  Calls Tryz.prog 186 #[.string s0.ba,.string qV.ba] w (cu w (.tuple #[.string y.1.ba,.bool y.2])):=by
 refine bP (args:=[_,_]) Tryz.func186 rfl ((pre_nil hS).start) rfl ?_;unfold D6 at hM;refine sr ?_;refine oa ?_;refine aP ?_;refine aO ?_;refine om ?_;obtain⟨y1,hy2,hM⟩:=bind_some hM;refine cv (fun hs=>apT _ _ s0 qV y1 hy2 (bC hs)) ?_;refine oe (eO (vs:=[.string y1.1.ba,.bool y1.2])) ?_;refine oe (eO (vs:=[.string y1.1.ba,.bool y1.2])) ?_;refine oa ?_;refine aP ?_;exact aW (vH hM)
def NZ:Int→Option (Int×Bool):=fun QW=>
 some (QW,true)
def Xw(y1:Str×Bool)(gJ:Int):Unit→Option (Int×Bool):=fun _=>
 if y1.2 then
  (bG (bW (-gJ))<|
  NZ (-gJ))
 else
  (NZ gJ)
def Eb(y1:Str×Bool)(aY:(Int×Nat)→Option (Int×Bool)):(Int×Nat)→Option (Int×Bool):=fun (gJ,Iy)=>
 if decide ((Iy:Int)<(y1.1.l.length:Int)) then
  ((lX y1.1 (Iy:Int)).bind fun c8=>
  (KE c8).bind fun jC=>
  if (!jC) then
   (some (0,false))
  else
   (bG (bW (10*gJ))<|
   (lX y1.1 (Iy:Int)).bind fun c14=>
   bG (bW ((10*gJ)+(IntKind.i64.wrap (IntKind.u8.wrap (c14-48)))))<|
   if decide (1099511627776<((10*gJ)+(IntKind.i64.wrap (IntKind.u8.wrap (c14-48))))) then
    (some (0,false))
   else
    (aY (((10*gJ)+(IntKind.i64.wrap (IntKind.u8.wrap (c14-48)))),Iy+1))))
 else
  (Xw y1 gJ ())
def Ad(s0:Str):Option (Int×Bool):=
 (D6 s0 (⟨[45]⟩:Str)).bind fun y1=>
 (fV (!(decide (y1.1=(⟨[]⟩:Str)))) 0 (lX y1.1 0)).bind fun c3=>
 if (decide (y1.1=(⟨[]⟩:Str))||(decide (c3=48)&&(y1.2||decide (1<(y1.1.l.length:Int))))) then
  (some (0,false))
 else
  (bG (decide ((y1.1.l.length:Int)≤9223372036854775807))<|
  iter (Eb y1) FUEL (0,0))
theorem Xx(S:bB)(w:World)(s0:Str)(y:Int×Bool)(hM:Ad s0=some y)(hS:sB S w):
   Calls Tryz.prog 156 #[.string s0.ba] w (cu w (.tuple #[vI y.1,.bool y.2])):=by
 refine bP (args:=[_]) Tryz.func156 rfl ((pre_nil hS).start) rfl ?_;unfold Ad at hM;refine sr ?_;refine oa ?_;refine aP ?_;refine aO ?_;obtain⟨y1,hy2,hM⟩:=bind_some hM;refine cv (fun hs=>apN _ _ s0 (⟨[45]⟩:Str) y1 hy2 (bC hs)) ?_;refine om ?_;refine oe (eO (vs:=[.string y1.1.ba,.bool y1.2])) ?_;refine oe (eO (vs:=[.string y1.1.ba,.bool y1.2])) ?_;refine oa ?_;refine aP ?_;refine aG fun K3 hK3=>?_;refine aO ?_;refine oe mF ?_;refine om ?_;refine av rfl aH ?_;obtain⟨c3,Za,hM⟩:=bind_some hM;refine av rfl (qp (fu Za)) ?_;refine av rfl eu ?_;refine av rfl aH ?_;refine av rfl aH ?_;refine av rfl aH ?_;refine av rfl aH ?_;refine av rfl mZ ?_;refine av rfl iw ?_;refine av rfl eT ?_;refine av rfl dI ?_;refine oe eT ?_;refine on ?_;refine cc rfl hM (fun jA hM=>?_) (fun jA hM=>?_)
 ·refine sr ?_;refine oa ?_;refine aP ?_;exact aW (vH hM)
 refine aX (hK3 _ _ ?_);clear hK3;refine bD ?_;refine aG fun K7 dZ=>?_;refine aO ?_;obtain⟨PI,hM⟩:=dw hM;replace PI:=of_decide_eq_true PI;refine oe mZ ?_;refine om ?_;refine on ?_;refine bF ?_;refine lq hM (fun (gJ,Iy)=>[(4,.v (.string y1.1.ba)),(5,.v (.bool y1.2)),(6,eI gJ),(29,eI (y1.1.l.length:Int)),(30,eI (Iy:Int))]) (fun (gJ,Iy)=>[]) sS rI ?_;clear hM;rintro aY ⟨gJ,Iy⟩ hM gu hL1;dsimp only[Eb] at hM ⊢;refine sr ?_;refine oe cO ?_;refine on ?_;refine aG fun uN gX=>?_;refine cc rfl hM (fun jR hM=>?_) (fun jR hM=>?_)
 ·have akj:=of_decide_eq_true jR;refine aX (gX _ _ ?_);clear gX;refine aG fun o7 eH=>?_;refine bF ?_;refine aO ?_;refine aP ?_;refine aG fun BA kS=>?_;refine aO ?_;refine om ?_;obtain⟨c8,PE,hM⟩:=bind_some hM;refine oe (qp (fun _=>PE)) ?_;obtain⟨jC,xB,hM⟩:=bind_some hM;refine cv (fun hs=>ahb _ _ c8 jC xB (bC hs)) ?_;refine oe fF ?_;refine on ?_;refine cc rfl hM (fun vX hM=>?_) (fun vX hM=>?_)
  · refine sr ?_;refine oa ?_;refine aP ?_;exact aW (vH hM)
  refine aX (kS _ _ ?_);clear kS;refine aO ?_;obtain⟨aji,hM⟩:=dw hM;refine oe (sQ (hr:=fun hg=>fH aji)) ?_;refine om ?_;refine om ?_;obtain⟨c14,ako,hM⟩:=bind_some hM;refine oe (qp (fun _=>ako)) ?_;refine oe Yx ?_;refine oe (ED .i64) ?_;refine oP hM fun hM=>?_;refine aP ?_;refine aO ?_;refine oe iw ?_;refine on ?_;refine cc rfl hM (fun hc17 hM=>?_) (fun hc17 hM=>?_)
  · refine sr ?_;refine oa ?_;refine aP ?_;exact aW (vH hM)
  refine aX (eH _ _ ?_);clear eH;refine aZ ?_;refine oe (dH (hr:=fun _=>by unfold d9;omega)) ?_;refine om ?_;refine bf (hL1 hM sS rI)
 refine dL (dZ _ _ ?_);clear dZ;dsimp only[Xw] at hM;refine jm y (k:=NZ) (fun QW=>[(6,eI QW)]) (fun QW=>[]) ?_ ?_
 ·intro za hJ2;refine aO ?_;refine on ?_;refine cc rfl hM (fun hc18 hM=>?_) (fun hc18 hM=>?_)
  · refine aZ ?_;refine om ?_;obtain⟨YL,hM⟩:=dw hM;refine oe (Yw (hr:=fun hg=>fH YL)) ?_;refine oa ?_;refine bf (hJ2 hM sS rI)
  refine aX (hJ2 hM sS rI)
 clear hM;rintro QW hM;dsimp only[NZ] at hM ⊢;refine aO ?_;refine oa ?_;refine aP ?_;exact aW (vH hM)
end Go.Proofs.YtcalibhfgdncaaaGreatDoor

/- Models of functions, and that the code computes them. -/
import Derived.Test.YtcalibhfgdncaaaGreatDoorPq
import Derived.Test.YtcalibhfgdncaaaGreatDoorPr
import Derived.Test.YtcalibhfgdncaaaGreatDoorWa
set_option linter.all false
namespace Go.Proofs.YtcalibhfgdncaaaGreatDoor
open Go.Dc Go.RowKit
set_option maxRecDepth 10000
def abq(p0:Plan):Unit→Option Int:=fun _=>
 if (decide (p0.bU<2)||decide (7200<p0.bU)) then
  (some 4)
 else
  (some 0)
def RV(p0:Plan)(bA:Nat→Option Int):Nat→Option Int:=fun EF=>
 if decide ((EF:Int)<(p0.Lines.length:Int)) then
  ((idx p0.Lines (EF:Int)).bind fun x9=>
  if decide (12<(x9.aJ.length:Int)) then
   (some 7)
  else
   (bA (EF+1)))
 else
  (abq p0 ())
def CB(p0:Plan):Bool→Option Int:=fun Ud=>
 if Ud then
  (some 7)
 else
  (iter (RV p0) FUEL 0)
def Nn(l0:Layout)(p0:Plan):Option Int:=
 (Ri l0).bind fun y3=>
 if decide (y3≠0) then
  (some 1)
 else
  (if decide (8<(p0.aR.length:Int)) then
   (CB p0 (decide (8<(p0.aR.length:Int))))
  else
   (if decide (48<(p0.Routes.length:Int)) then
    (CB p0 (decide (48<(p0.Routes.length:Int))))
   else
    (if decide (16<(p0.Lines.length:Int)) then
     (CB p0 (decide (16<(p0.Lines.length:Int))))
    else
     (if decide (32<(p0.Changes.length:Int)) then
      (CB p0 (decide (32<(p0.Changes.length:Int))))
     else
      (if decide (32<(p0.Turns.length:Int)) then
       (CB p0 (decide (32<(p0.Turns.length:Int))))
      else
       (if decide (32<(p0.bE.length:Int)) then
        (CB p0 (decide (32<(p0.bE.length:Int))))
       else
        (CB p0 (decide (32<(p0.bF.length:Int))))))))))
theorem apW(S:bO)(w:World)(l0:Layout)(ay:aC.R Layout)(p0:Plan)(ah:aC.R Plan)(y:Int)(hM:Nn l0 p0=some y)(hS:sB S w)(dZ:aC.ok S w ay l0)(fT:aC.ok S w ah p0):
   Calls Tryz.prog 32 #[.agg (jN l0 ay),.agg (iV p0 ah)] w (dz w (vI y)):=by
 refine cu (args:=[_,_]) Tryz.func32 rfl ((pre_nil hS).start |>.lY dZ|>.nS fT) rfl ?_;unfold Nn at hM;refine sr ?_;refine oB (cK l0 ay) fun b1=>?_;refine oB (dh p0 ah) fun b2=>?_
 refine aT ?_;refine aK fun K2 hK2=>?_;refine bH ?_;refine sr ?_;refine oe (bR (b:=b1)) ?_;obtain⟨y3,hy4,hM⟩:=bind_some hM;refine cv (fun hs=>afr _ _ l0 ay y3 hy4 (bf hs) ⟨(kM hs),(kM hs),(kM hs),(kM hs)⟩) ?_;refine oe gZ ?_;refine aT ?_;refine cc rfl hM (fun jL hM=>?_) (fun jL hM=>?_)
 ·refine bI ?_;exact aY (bQ hM)
 refine jm y (k:=CB p0) (fun Ud=>[(3,eP b2),(11,.v (.bool Ud))]) (fun Ud=>[iL p0.aR ah.1,iL p0.Routes ah.2.1,iL p0.Lines ah.2.2.1,iL p0.Changes ah.2.2.2.1,iL p0.Turns ah.2.2.2.2.1,iL p0.bE ah.2.2.2.2.2.1,iL p0.bF ah.2.2.2.2.2.2,own b2 35 (dh p0 ah)]) ?_ ?_
 ·intro zB fu;refine sr ?_;refine oe (av 1) ?_;refine oe (aF (b:=b2)) ?_;refine oe bL ?_;refine oe gM ?_;refine aT ?_;refine cc rfl hM (fun vT hM=>?_) (fun vT hM=>?_)
  · refine aX (fu hM sS rI)
  refine sr ?_;refine oe (av 2) ?_;refine oe (aF (b:=b2)) ?_;refine oe bL ?_;refine oe gM ?_;refine aT ?_;refine cc rfl hM (fun xQ hM=>?_) (fun xQ hM=>?_)
  · refine aX (fu hM sS rI)
  refine sr ?_;refine oe (av 3) ?_;refine oe (aF (b:=b2)) ?_;refine oe bL ?_;refine oe gM ?_;refine aT ?_;refine cc rfl hM (fun hc16 hM=>?_) (fun hc16 hM=>?_)
  · refine aX (fu hM sS rI)
  refine sr ?_;refine oe (av 4) ?_;refine oe (aF (b:=b2)) ?_;refine oe bL ?_;refine oe gM ?_;refine aT ?_;refine cc rfl hM (fun hc17 hM=>?_) (fun hc17 hM=>?_)
  · refine aX (fu hM sS rI)
  refine sr ?_;refine oe (av 5) ?_;refine oe (aF (b:=b2)) ?_;refine oe bL ?_;refine oe gM ?_;refine aT ?_;refine cc rfl hM (fun hc18 hM=>?_) (fun hc18 hM=>?_)
  · refine aX (fu hM sS rI)
  refine sr ?_;refine oe (av 6) ?_;refine oe (aF (b:=b2)) ?_;refine oe bL ?_;refine oe gM ?_;refine aT ?_;refine cc rfl hM (fun hc19 hM=>?_) (fun hc19 hM=>?_)
  · refine aX (fu hM sS rI)
  refine bB ?_;refine oe (av 7) ?_;refine oe (aF (b:=b2)) ?_;refine oe bL ?_;refine oe gM ?_;refine oa ?_;refine bC (fu hM sS rI)
 clear hM;rintro Ud hM;dsimp only[CB] at hM ⊢;refine cc rfl hM (fun hc6 hM=>?_) (fun hc6 hM=>?_)
 ·refine bI ?_;exact aY (bQ hM)
 refine aX (hK2 _ _ ?_);clear hK2;refine aK fun K6 dn=>?_;refine sr ?_;refine oe (av 3) ?_;refine oe (aF (b:=b2)) ?_;refine mF (fun w hm=>Kn.len (kG p0.Lines ah.2.2.1) hm) fun hl7=>?_;refine oe bL ?_;refine om ?_;refine on ?_;refine bH ?_;refine lq hM (fun EF=>[(3,eP b2),(41,eS ah.2.2.1 p0.Lines),(42,eI (p0.Lines.length:Int)),(43,eI (EF:Int))]) (fun EF=>[iL p0.aR ah.1,iL p0.Routes ah.2.1,iL p0.Lines ah.2.2.1,iL p0.Changes ah.2.2.2.1,iL p0.Turns ah.2.2.2.2.1,iL p0.bE ah.2.2.2.2.2.1,iL p0.bF ah.2.2.2.2.2.2,own b2 35 (dh p0 ah)]) sS rI ?_;clear hM;rintro bA EF hM iG hL1;dsimp only[RV] at hM ⊢
 refine sr ?_;refine oe bY ?_;refine on ?_;refine aK fun K9 gB=>?_;refine cc rfl hM (fun hc8 hM=>?_) (fun hc8 hM=>?_)
 ·have asv:=of_decide_eq_true hc8;refine aX (gB _ _ ?_);clear gB;refine aK fun tK gU=>?_;refine bH ?_;refine sr ?_;obtain⟨x9,ni,hM⟩:=bind_some hM;refine oe (bD (xs:=p0.Lines) 4 (kG p0.Lines ah.2.2.1) (iS ni)) ?_;refine oe (fM (m:=4) (i:=(EF:Int)) (xs:=p0.Lines) (y:=x9) (l:=(kZ x9 (ah.2.2.1.es (EF:Int).toNat))) 0 (kG p0.Lines ah.2.2.1) (fun _=>ni)) ?_;refine oA rfl fun b11=>?_;refine oS b11 (kZ x9 (ah.2.2.1.es (EF:Int).toNat)) ?_;refine on ?_;refine sr ?_;refine oe (av 3) ?_;refine oe (aF (b:=b11)) ?_;refine oe bL ?_;refine oe gM ?_;refine on ?_;refine cc rfl hM (fun qD hM=>?_) (fun qD hM=>?_)
  · refine bI ?_;exact aY (bQ hM)
  refine aX (gU _ _ ?_);clear gU;refine bB ?_;refine oe (eH (hr:=fun _=>by unfold gF;omega)) ?_;refine om ?_;refine bC (hL1 hM sS rI)
 refine dK (dn _ _ ?_);clear dn;dsimp only[abq] at hM;refine aK fun BN mq=>?_;refine sr ?_;refine oe (av 0) ?_;refine oe (aF (b:=b2)) ?_;refine oe bY ?_;refine om ?_;refine aD rfl (av 0) ?_;refine aD rfl (aF (b:=b2)) ?_;refine aD rfl gM ?_;refine oe dQ ?_;refine on ?_;refine cc rfl hM (fun zM hM=>?_) (fun zM hM=>?_)
 ·refine bI ?_;exact aY (bQ hM)
 refine aX (mq _ _ ?_);clear mq;refine bI ?_;exact aY (bQ hM)
def afY:Unit→Option Int:=fun _=>
 some 0
def Wi(p0:Plan)(bA:Nat→Option Int):Nat→Option Int:=fun gL=>
 if decide ((gL:Int)<(p0.aR.length:Int)) then
  ((idx p0.aR (gL:Int)).bind fun x5=>
  (OX x5.Name).bind fun y8=>
  if (!y8) then
   (some 3)
  else
   ((sub p0.aR 0 (gL:Int)).bind fun JV=>
   (TY JV x5).bind fun eG=>
   if eG then
    (some 5)
   else
    ((PY x5).bind fun DF=>
    if (!DF) then
     (some 4)
    else
     (bA (gL+1)))))
 else
  (afY ())
def Np(l0:Layout)(p0:Plan):Option Int:=
 iter (Wi p0) FUEL 0
theorem apY(S:bO)(w:World)(l0:Layout)(ay:aC.R Layout)(p0:Plan)(ah:aC.R Plan)(y:Int)(hM:Np l0 p0=some y)(hS:sB S w)(dZ:aC.ok S w ay l0)(fT:aC.ok S w ah p0):
   Calls Tryz.prog 33 #[.agg (jN l0 ay),.agg (iV p0 ah)] w (dz w (vI y)):=by
 refine cu (args:=[_,_]) Tryz.func33 rfl ((pre_nil hS).start |>.lY dZ|>.nS fT) rfl ?_;unfold Np at hM;refine sr ?_;refine oB (cK l0 ay) fun b1=>?_;refine oB (dh p0 ah) fun b2=>?_
 refine aT ?_;refine aK fun K2 hK2=>?_;refine sr ?_;refine oe (av 1) ?_;refine oe (aF (b:=b2)) ?_;refine mF (fun w hm=>Kn.len (kG p0.aR ah.1) hm) fun hl3=>?_;refine oe bL ?_;refine om ?_;refine on ?_;refine bH ?_;refine lq hM (fun gL=>[(3,eP b2),(8,eS ah.1 p0.aR),(9,eI (p0.aR.length:Int)),(10,eI (gL:Int))]) (fun gL=>[iL p0.aR ah.1,iL p0.Routes ah.2.1,iL p0.Lines ah.2.2.1,iL p0.Changes ah.2.2.2.1,iL p0.Turns ah.2.2.2.2.1,iL p0.bE ah.2.2.2.2.2.1,iL p0.bF ah.2.2.2.2.2.2,own b2 35 (dh p0 ah)]) sS rI ?_;clear hM;rintro bA gL hM iG hL1;dsimp only[Wi] at hM ⊢
 refine sr ?_;refine oe bY ?_;refine on ?_;refine aK fun K5 dI=>?_;refine cc rfl hM (fun hc4 hM=>?_) (fun hc4 hM=>?_)
 ·have Fj:=of_decide_eq_true hc4;refine aX (dI _ _ ?_);clear dI;refine aK fun K6 dn=>?_;refine bH ?_;refine aW ?_;obtain⟨x5,hx6,hM⟩:=bind_some hM;refine oe (bD (xs:=p0.aR) 5 (kG p0.aR ah.1) (iS hx6)) ?_;refine oe (fM (m:=5) (i:=(gL:Int)) (xs:=p0.aR) (y:=x5) (l:=(ru x5)) 0 (kG p0.aR ah.1) (fun _=>hx6)) ?_;refine oA rfl fun b7=>?_;refine oa ?_;refine oS b7 (ru x5) ?_;refine on ?_;refine bH ?_;refine sr ?_;refine oe (av 0) ?_;refine oe (aF (b:=b7)) ?_;obtain⟨y8,uh,hM⟩:=bind_some hM;refine cv (fun hs=>ail _ _ x5.Name y8 uh (bf hs)) ?_;refine oe fq ?_;refine aT ?_;refine cc rfl hM (fun wO hM=>?_) (fun wO hM=>?_)
  · refine bI ?_;exact aY (bQ hM)
  refine sr ?_;refine oe (av 1) ?_;refine oe (aF (b:=b2)) ?_;refine om ?_;obtain⟨JV,hl12,hM⟩:=bind_some hM;refine bM (La (r:=ah.1) (xs:=p0.aR) (ol:=none) (oh:=some (.i64,(gL:Int))) (Sk.dw (α:=List aH) (r:=ah.1) (x:=p0.aR) hA) hl12 (fun sO=>?_));refine oe Y7 ?_;obtain⟨eG,uf,hM⟩:=bind_some hM;refine cv (fun hs=>arn _ _ JV sO b7 x5 eG uf (bf hs) (kM hs) (abn hA hs)) ?_;refine aT ?_;refine cc rfl hM (fun hc16 hM=>?_) (fun hc16 hM=>?_)
  · refine bI ?_;exact aY (bQ hM)
  refine sr ?_;refine oe (bR (b:=b7)) ?_;obtain⟨DF,QN,hM⟩:=bind_some hM;refine cv (fun hs=>adY _ _ x5 DF QN (bf hs)) ?_;refine oe fq ?_;refine aT ?_;refine cc rfl hM (fun hc19 hM=>?_) (fun hc19 hM=>?_)
  · refine bI ?_;exact aY (bQ hM)
  refine aX (dn _ _ ?_);clear dn;refine bB ?_;refine oe (eH (hr:=fun _=>by unfold gF;omega)) ?_;refine om ?_;refine bC (hL1 hM sS rI)
 refine dK (hK2 _ _ ?_);clear hK2;dsimp only[afY] at hM;refine bI ?_;exact aY (bQ hM)
def afX:Unit→Option Int:=fun _=>
 some 0
def Wh(p0:Plan)(l0:Layout)(bA:Nat→Option Int):Nat→Option Int:=fun uH=>
 if decide ((uH:Int)<(p0.Routes.length:Int)) then
  ((idx p0.Routes (uH:Int)).bind fun x5=>
  (Ov l0 x5).bind fun y8=>
  if decide (y8≠0) then
   (some y8)
  else
   (bA (uH+1)))
 else
  (afX ())
def Nl(l0:Layout)(p0:Plan):Option Int:=
 iter (Wh p0 l0) FUEL 0
theorem apV(S:bO)(w:World)(l0:Layout)(ay:aC.R Layout)(p0:Plan)(ah:aC.R Plan)(y:Int)(hM:Nl l0 p0=some y)(hS:sB S w)(dZ:aC.ok S w ay l0)(fT:aC.ok S w ah p0):
   Calls Tryz.prog 34 #[.agg (jN l0 ay),.agg (iV p0 ah)] w (dz w (vI y)):=by
 refine cu (args:=[_,_]) Tryz.func34 rfl ((pre_nil hS).start |>.lY dZ|>.nS fT) rfl ?_;unfold Nl at hM;refine sr ?_;refine oB (cK l0 ay) fun b1=>?_;refine oB (dh p0 ah) fun b2=>?_
 refine aT ?_;refine aK fun K2 hK2=>?_;refine sr ?_;refine oe (av 2) ?_;refine oe (aF (b:=b2)) ?_;refine mF (fun w hm=>Kn.len (kG p0.Routes ah.2.1) hm) fun hl3=>?_;refine oe bL ?_;refine om ?_;refine on ?_;refine bH ?_;refine lq hM (fun uH=>[(2,eP b1),(9,eS ah.2.1 p0.Routes),(10,eI (p0.Routes.length:Int)),(11,eI (uH:Int))]) (fun uH=>[iL l0.aU ay.1,iL l0.bG ay.2.1,iL l0.Sections ay.2.2.1,iL l0.Links ay.2.2.2,own b1 26 (cK l0 ay),iL p0.Routes ah.2.1]) sS rI ?_;clear hM;rintro bA uH hM iG hL1;dsimp only[Wh] at hM ⊢;refine sr ?_;refine oe bY ?_;refine on ?_;refine aK fun K5 dI=>?_;refine cc rfl hM (fun hc4 hM=>?_) (fun hc4 hM=>?_)
 ·have Fj:=of_decide_eq_true hc4;refine aX (dI _ _ ?_);clear dI;refine aK fun K6 dn=>?_;refine bH ?_;refine sr ?_;obtain⟨x5,hx6,hM⟩:=bind_some hM;refine oe (bD (xs:=p0.Routes) 2 (kG p0.Routes ah.2.1) (iS hx6)) ?_;refine oe (fM (m:=2) (i:=(uH:Int)) (xs:=p0.Routes) (y:=x5) (l:=(jC x5 (ah.2.1.es (uH:Int).toNat))) 0 (kG p0.Routes ah.2.1) (fun _=>hx6)) ?_;refine oA rfl fun b7=>?_;refine oS b7 (jC x5 (ah.2.1.es (uH:Int).toNat)) ?_;refine on ?_;refine sr ?_;refine oe (bR (b:=b1)) ?_;refine oe (bR (b:=b7)) ?_;obtain⟨y8,uh,hM⟩:=bind_some hM;refine cv (fun hs=>ahq _ _ l0 ay x5 (ah.2.1.es (uH:Int).toNat) y8 uh (bf hs) ⟨(kM hs),(kM hs),(kM hs),(kM hs)⟩ (Kn.lend ((Sk.elem (Sk.dw (α:=List aO) (r:=ah.2.1) (x:=p0.Routes) hA) hx6)).kn hs)) ?_;refine aT ?_;refine aW ?_;refine oe gZ ?_;refine on ?_
  refine cc rfl hM (fun wO hM=>?_) (fun wO hM=>?_)
  · refine aW ?_;refine aT ?_;exact aY (bQ hM)
  refine aX (dn _ _ ?_);clear dn;refine bB ?_;refine oe (eH (hr:=fun _=>by unfold gF;omega)) ?_;refine om ?_;refine bC (hL1 hM sS rI)
 refine dK (hK2 _ _ ?_);clear hK2;dsimp only[afX] at hM;refine bI ?_;exact aY (bQ hM)
def Cz(p0:Plan)(x4:aM)(gD:Line)(l0:Layout)(k0:Int):Bool→Option Int:=fun Ue=>
 if Ue then
  (some 4)
 else
  ((idx p0.Routes x4.aO).bind fun x8=>
  (idx p0.aR gD.aH).bind fun x10=>
  (PI l0 x8 x10).bind fun wF=>
  if decide (wF≠0) then
   (some wF)
  else
   (bq (!(decide (0<k0))||bJ (k0-1))<|
   (fK (decide (0<k0)) default (idx gD.aJ (k0-1))).bind fun rP=>
   (fK (decide (0<k0)) default (Kg p0 x4)).bind fun jW=>
   (fK (decide (0<k0)) default (Kh p0 rP)).bind fun y20=>
   if (decide (0<k0)&&decide (jW≠y20)) then
    (some 11)
   else
    (some 0)))
def Nk(l0:Layout)(p0:Plan)(gD:Line)(k0:Int):Option Int:=
 (idx gD.aJ k0).bind fun x4=>
 if decide (x4.aO<0) then
  (Cz p0 x4 gD l0 k0 (decide (x4.aO<0)))
 else
  (if decide ((p0.Routes.length:Int)≤x4.aO) then
   (Cz p0 x4 gD l0 k0 (decide ((p0.Routes.length:Int)≤x4.aO)))
  else
   (if decide (x4.Extra<0) then
    (Cz p0 x4 gD l0 k0 (decide (x4.Extra<0)))
   else
    (if decide (p0.bU≤x4.Extra) then
     (Cz p0 x4 gD l0 k0 (decide (p0.bU≤x4.Extra)))
    else
     ((J9 p0 x4.Min x4.Max).bind fun y27=>
     if (!y27) then
      (Cz p0 x4 gD l0 k0 (!y27))
     else
      (bq (bJ ((gD.aJ.length:Int)-1))<|
      Cz p0 x4 gD l0 k0 (decide (k0=((gD.aJ.length:Int)-1))&&(decide (x4.Min≠0)||decide (x4.Max≠0))))))))
theorem apU(S:bO)(w:World)(l0:Layout)(ay:aC.R Layout)(p0:Plan)(ah:aC.R Plan)(gD:Line)(Et:aC.R Line)(k0:Int)(y:Int)(hM:Nk l0 p0 gD k0=some y)(hS:sB S w)(dZ:aC.ok S w ay l0)(fT:aC.ok S w ah p0)(ak9:aC.ok S w Et gD):
   Calls Tryz.prog 86 #[.agg (jN l0 ay),.agg (iV p0 ah),.agg (YE gD Et),vI k0] w (dz w (vI y)):=by
 refine cu (args:=[_,_,_,_]) Tryz.func86 rfl ((pre_nil hS).start |>.lY dZ|>.nS fT|>.gW (α:=List aM) (r:=Et) (x:=gD.aJ) ak9) rfl ?_;unfold Nk at hM;refine sr ?_;refine oB (cK l0 ay) fun b1=>?_;refine oB (dh p0 ah) fun b2=>?_
 refine oB (kZ gD Et) fun b3=>?_;refine aT ?_;refine sr ?_;refine oe (av 3) ?_;refine oe (aF (b:=b3)) ?_;refine om ?_;obtain⟨x4,hx5,hM⟩:=bind_some hM;refine oe (bD (xs:=gD.aJ) 4 (kG gD.aJ Et) (iS hx5)) ?_;refine oe (fM (m:=4) (i:=k0) (xs:=gD.aJ) (y:=x4) (l:=(wY x4)) 0 (kG gD.aJ Et) (fun _=>hx5)) ?_;refine oA rfl fun b6=>?_;refine oS b6 (wY x4) ?_;refine on ?_;refine aK fun K3 hK3=>?_;refine bH ?_;refine jm y (k:=Cz p0 x4 gD l0 k0) (fun Ue=>[(3,eI k0),(4,eP b1),(5,eP b2),(6,eP b3),(9,eP b6),(16,.v (.bool Ue))]) (fun Ue=>[iL l0.aU ay.1,iL l0.bG ay.2.1,iL l0.Sections ay.2.2.1,iL l0.Links ay.2.2.2,own b1 26 (cK l0 ay),iL p0.aR ah.1,iL p0.Routes ah.2.1,iL p0.Lines ah.2.2.1,iL p0.Changes ah.2.2.2.1,iL p0.Turns ah.2.2.2.2.1,iL p0.bE ah.2.2.2.2.2.1,iL p0.bF ah.2.2.2.2.2.2,own b2 35 (dh p0 ah),iL gD.aJ Et,own b3 56 (kZ gD Et),own b6 58 (wY x4)]) ?_ ?_
 ·intro zB fu;refine sr ?_;refine oe (av 0) ?_;refine oe (aF (b:=b6)) ?_;refine oe bY ?_;refine aT ?_;refine cc rfl hM (fun Jw hM=>?_) (fun Jw hM=>?_)
  · refine aX (fu hM sS rI)
  refine sr ?_;refine oe (av 0) ?_;refine oe (aF (b:=b6)) ?_;refine oe (av 2) ?_;refine oe (aF (b:=b2)) ?_;refine oe bL ?_;refine oe jK ?_;refine aT ?_;refine cc rfl hM (fun hc24 hM=>?_) (fun hc24 hM=>?_)
  · refine aX (fu hM sS rI)
  refine sr ?_;refine oe (av 1) ?_;refine oe (aF (b:=b6)) ?_;refine oe bY ?_;refine aT ?_;refine cc rfl hM (fun hc25 hM=>?_) (fun hc25 hM=>?_)
  · refine aX (fu hM sS rI)
  refine sr ?_;refine oe (av 1) ?_;refine oe (aF (b:=b6)) ?_;refine oe (av 0) ?_;refine oe (aF (b:=b2)) ?_;refine oe jK ?_;refine aT ?_;refine cc rfl hM (fun ZE hM=>?_) (fun ZE hM=>?_)
  · refine aX (fu hM sS rI)
  refine sr ?_;refine oe (bR (b:=b2)) ?_;refine oe (av 2) ?_;refine oe (aF (b:=b6)) ?_;refine oe (av 3) ?_;refine oe (aF (b:=b6)) ?_;obtain⟨y27,hy28,hM⟩:=bind_some hM;refine cv (fun hs=>abo _ _ p0 ah x4.Min x4.Max y27 hy28 (bf hs) ⟨(kM hs),(kM hs),(kM hs),(kM hs),(kM hs),(kM hs),(kM hs)⟩) ?_;refine oe fq ?_;refine aT ?_;refine cc rfl hM (fun hc29 hM=>?_) (fun hc29 hM=>?_)
  · refine aX (fu hM sS rI)
  refine bB ?_;refine om ?_;refine oe (av 3) ?_;refine oe (aF (b:=b3)) ?_;refine oe bL ?_;refine oN hM fun hM=>?_;refine oe dU ?_;refine om ?_;refine aD rfl (av 2) ?_;refine aD rfl (aF (b:=b6)) ?_;refine aD rfl gZ ?_;refine aD rfl aL ?_;refine aD rfl (av 3) ?_;refine aD rfl (aF (b:=b6)) ?_;refine aD rfl gZ ?_;refine aD rfl dQ ?_;refine oe dG ?_;refine oa ?_;refine bC (fu hM sS rI)
 clear hM;rintro Ue hM;dsimp only[Cz] at hM ⊢;refine cc rfl hM (fun oJ hM=>?_) (fun oJ hM=>?_)
 ·refine bI ?_;exact aY (bQ hM)
 refine aX (hK3 _ _ ?_);clear hK3;refine aK fun K5 dI=>?_;refine aK fun K6 dn=>?_;refine gy _ (List.Sublist.refl _) ?_;refine ak 0 rfl (bR (b:=b1)) ?_;refine ak 1 rfl (av 2) ?_;refine ak 2 rfl (aF (b:=b2)) ?_;refine ak 3 rfl (av 0) ?_;refine ak 4 rfl (aF (b:=b6)) ?_;obtain⟨x8,Fv,hM⟩:=bind_some hM;refine ak 5 rfl (bD (xs:=p0.Routes) 2 (kG p0.Routes ah.2.1) (iS Fv)) ?_;refine ak 6 rfl (fM (m:=2) (i:=x4.aO) (xs:=p0.Routes) (y:=x8) (l:=(jC x8 (ah.2.1.es x4.aO.toNat))) 0 (kG p0.Routes ah.2.1) (fun _=>Fv)) ?_;refine ak 7 rfl (av 1) ?_;refine ak 8 rfl (aF (b:=b2)) ?_;refine ak 9 rfl (av 1) ?_;refine ak 10 rfl (aF (b:=b3)) ?_;obtain⟨x10,qW,hM⟩:=bind_some hM;refine ak 11 rfl (bD (xs:=p0.aR) 5 (kG p0.aR ah.1) (iS qW)) ?_;refine ak 12 rfl (fM (m:=5) (i:=gD.aH) (xs:=p0.aR) (y:=x10) (l:=(ru x10)) 0 (kG p0.aR ah.1) (fun _=>qW)) ?_;obtain⟨wF,JF,hM⟩:=bind_some hM;refine dH 13 rfl (sV (fun hs=>ai2 _ _ l0 ay x8 (ah.2.1.es x4.aO.toNat) x10 wF JF (bf hs) ⟨(kM hs),(kM hs),(kM hs),(kM hs)⟩ (Kn.lend ((Sk.elem (Sk.dw (α:=List aO) (r:=ah.2.1) (x:=p0.Routes) hA) Fv)).kn hs)) ⟨rI,?_⟩)
 refine ak 14 rfl dD ?_;refine dP (dn _ _ ?_);clear dn;refine aW ?_;refine oe gZ ?_;refine on ?_;refine cc rfl hM (fun vT hM=>?_) (fun vT hM=>?_)
 ·refine aW ?_;refine aT ?_;exact aY (bQ hM)
 refine aX (dI _ _ ?_);clear dI;refine aK fun K9 gB=>?_;refine aK fun tK gU=>?_;refine gy _ (List.Sublist.refl _) ?_;refine ak 0 rfl aL ?_;refine ak 1 rfl gM ?_;refine ak 2 rfl aL ?_;refine dO 3 rfl rfl (bR (b:=b2)) ?_;refine dO 4 rfl rfl (bR (b:=b6)) ?_;refine dO 6 rfl rfl (bR (b:=b2)) ?_;refine dO 7 rfl rfl (av 3) ?_;refine dO 8 rfl rfl (aF (b:=b3)) ?_;refine dO 9 rfl rfl aL ?_;obtain⟨Zj,hM⟩:=bW hM;refine dO 10 rfl rfl (ng (hr:=fun hg=>dY (Cb Zj hg))) ?_;obtain⟨rP,JD,hM⟩:=bind_some hM;refine dO 11 rfl rfl (bD (xs:=gD.aJ) 4 (kG gD.aJ Et) (fun hg=>let h:=nH (eF JD hg);⟨h.1,h.2.1⟩)) ?_;refine dO 12 rfl rfl (fM (m:=4) (i:=(k0-1)) (xs:=gD.aJ) (y:=rP) (l:=(wY rP)) 0 (kG gD.aJ Et) (fun hg=>eF JD hg)) ?_;obtain⟨jW,xU,hM⟩:=bind_some hM;refine LJ 5 rfl rfl (fun hg w hm=>let ⟨S,hs⟩:=hm;abw _ w p0 ah x4 jW (eF xU hg) (bf hs) ⟨(kM hs),(kM hs),(kM hs),(kM hs),(kM hs),(kM hs),(kM hs)⟩) ?_;obtain⟨y20,Cq,hM⟩:=bind_some hM;refine LJ 13 rfl rfl (fun hg w hm=>let ⟨S,hs⟩:=hm;abx _ w p0 ah rP y20 (eF Cq hg) (bf hs) ⟨(kM hs),(kM hs),(kM hs),(kM hs),(kM hs),(kM hs),(kM hs)⟩) ?_
 refine dO 14 rfl rfl gZ ?_;refine ak 15 rfl dG ?_;refine dP (gU _ _ ?_);clear gU;refine cc rfl hM (fun hc22 hM=>?_) (fun hc22 hM=>?_)
 ·refine bI ?_;exact aY (bQ hM)
 refine aX (gB _ _ ?_);clear gB;refine bI ?_;exact aY (bQ hM)
def afW(bA:Nat→Option Int)(jf:Nat):Unit→Option Int:=fun _=>
 bA (jf+1)
def RU(x5:Line)(l0:Layout)(p0:Plan)(bA:Nat→Option Int)(jf:Nat)(fE:Nat→Option Int):Nat→Option Int:=fun IW=>
 if decide ((IW:Int)<(x5.aJ.length:Int)) then
  ((Nk l0 p0 x5 (IW:Int)).bind fun y21=>
  if decide (y21≠0) then
   (some y21)
  else
   (fE (IW+1)))
 else
  (afW bA jf ())
def Ka(x5:Line)(l0:Layout)(p0:Plan)(bA:Nat→Option Int)(jf:Nat):Bool→Option Int:=fun Uh=>
 if Uh then
  (some 4)
 else
  (if decide ((x5.aJ.length:Int)=0) then
   (some 1)
  else
   (iter (RU x5 l0 p0 bA jf) FUEL 0))
def afV:Unit→Option Int:=fun _=>
 some 0
def V9(p0:Plan)(l0:Layout)(bA:Nat→Option Int):Nat→Option Int:=fun jf=>
 if decide ((jf:Int)<(p0.Lines.length:Int)) then
  ((idx p0.Lines (jf:Int)).bind fun x5=>
  (OX x5.Name).bind fun y8=>
  if (!y8) then
   (some 3)
  else
   ((sub p0.Lines 0 (jf:Int)).bind fun JV=>
   (TW JV x5).bind fun eG=>
   if eG then
    (some 5)
   else
    (if decide (x5.aH<0) then
     (Ka x5 l0 p0 bA jf (decide (x5.aH<0)))
    else
     (if decide ((p0.aR.length:Int)≤x5.aH) then
      (Ka x5 l0 p0 bA jf (decide ((p0.aR.length:Int)≤x5.aH)))
     else
      ((RX x5.Weight).bind fun aP=>
      Ka x5 l0 p0 bA jf (!aP))))))
 else
  (afV ())
def Nj(l0:Layout)(p0:Plan):Option Int:=
 iter (V9 p0 l0) FUEL 0
theorem apT(S:bO)(w:World)(l0:Layout)(ay:aC.R Layout)(p0:Plan)(ah:aC.R Plan)(y:Int)(hM:Nj l0 p0=some y)(hS:sB S w)(dZ:aC.ok S w ay l0)(fT:aC.ok S w ah p0):
   Calls Tryz.prog 35 #[.agg (jN l0 ay),.agg (iV p0 ah)] w (dz w (vI y)):=by
 refine cu (args:=[_,_]) Tryz.func35 rfl ((pre_nil hS).start |>.lY dZ|>.nS fT) rfl ?_;unfold Nj at hM;refine sr ?_;refine oB (cK l0 ay) fun b1=>?_;refine oB (dh p0 ah) fun b2=>?_
 refine aT ?_;refine aK fun K2 hK2=>?_;refine sr ?_;refine oe (av 3) ?_;refine oe (aF (b:=b2)) ?_;refine mF (fun w hm=>Kn.len (kG p0.Lines ah.2.2.1) hm) fun hl3=>?_;refine oe bL ?_;refine om ?_;refine on ?_;refine bH ?_;refine lq hM (fun jf=>[(2,eP b1),(3,eP b2),(10,eS ah.2.2.1 p0.Lines),(11,eI (p0.Lines.length:Int)),(12,eI (jf:Int))]) (fun jf=>[iL l0.aU ay.1,iL l0.bG ay.2.1,iL l0.Sections ay.2.2.1,iL l0.Links ay.2.2.2,own b1 26 (cK l0 ay),iL p0.aR ah.1,iL p0.Routes ah.2.1,iL p0.Lines ah.2.2.1,iL p0.Changes ah.2.2.2.1,iL p0.Turns ah.2.2.2.2.1,iL p0.bE ah.2.2.2.2.2.1,iL p0.bF ah.2.2.2.2.2.2,own b2 35 (dh p0 ah)]) sS rI ?_
 clear hM;rintro bA jf hM iG hL1;dsimp only[V9] at hM ⊢;refine sr ?_;refine oe bY ?_;refine on ?_;refine aK fun K5 dI=>?_;refine cc rfl hM (fun hc4 hM=>?_) (fun hc4 hM=>?_)
 ·have Fj:=of_decide_eq_true hc4;refine aX (dI _ _ ?_);clear dI;refine aK fun K6 dn=>?_;refine bH ?_;refine aW ?_;obtain⟨x5,hx6,hM⟩:=bind_some hM;refine oe (bD (xs:=p0.Lines) 4 (kG p0.Lines ah.2.2.1) (iS hx6)) ?_;refine oe (fM (m:=4) (i:=(jf:Int)) (xs:=p0.Lines) (y:=x5) (l:=(kZ x5 (ah.2.2.1.es (jf:Int).toNat))) 0 (kG p0.Lines ah.2.2.1) (fun _=>hx6)) ?_;refine oA rfl fun b7=>?_;refine oa ?_;refine oS b7 (kZ x5 (ah.2.2.1.es (jf:Int).toNat)) ?_;refine on ?_;refine aK fun K8 gV=>?_;refine bH ?_;refine sr ?_;refine oe (av 0) ?_;refine oe (aF (b:=b7)) ?_;obtain⟨y8,uh,hM⟩:=bind_some hM;refine cv (fun hs=>ail _ _ x5.Name y8 uh (bf hs)) ?_;refine oe fq ?_;refine aT ?_;refine cc rfl hM (fun wO hM=>?_) (fun wO hM=>?_)
  · refine bI ?_;exact aY (bQ hM)
  refine sr ?_;refine oe (av 3) ?_;refine oe (aF (b:=b2)) ?_;refine om ?_;obtain⟨JV,hl12,hM⟩:=bind_some hM;refine bM (La (r:=ah.2.2.1) (xs:=p0.Lines) (ol:=none) (oh:=some (.i64,(jf:Int))) (Sk.dw (α:=List Line) (r:=ah.2.2.1) (x:=p0.Lines) hA) hl12 (fun sO=>?_));refine oe Y7 ?_;obtain⟨eG,uf,hM⟩:=bind_some hM;refine cv (fun hs=>arl _ _ JV sO b7 x5 (ah.2.2.1.es (jf:Int).toNat) eG uf (bf hs) (kM hs) (abn hA hs) (Kn.lend ((Sk.elem (Sk.dw (α:=List Line) (r:=ah.2.2.1) (x:=p0.Lines) hA) hx6)).kn hs)) ?_;refine aT ?_;refine cc rfl hM (fun hc16 hM=>?_) (fun hc16 hM=>?_)
  · refine bI ?_;exact aY (bQ hM)
  refine jm y (k:=Ka x5 l0 p0 bA jf) (fun Uh=>[(2,eP b1),(3,eP b2),(6,eP b7),(10,eS ah.2.2.1 p0.Lines),(11,eI (p0.Lines.length:Int)),(12,eI (jf:Int)),(29,.v (.bool Uh))]) (fun Uh=>[iL l0.aU ay.1,iL l0.bG ay.2.1,iL l0.Sections ay.2.2.1,iL l0.Links ay.2.2.2,own b1 26 (cK l0 ay),iL p0.aR ah.1,iL p0.Routes ah.2.1,iL p0.Lines ah.2.2.1,iL p0.Changes ah.2.2.2.1,iL p0.Turns ah.2.2.2.2.1,iL p0.bE ah.2.2.2.2.2.1,iL p0.bF ah.2.2.2.2.2.2,own b2 35 (dh p0 ah),own b7 56 (kZ x5 (ah.2.2.1.es (jf:Int).toNat))]) ?_ ?_
  · intro Gh hJ3;refine sr ?_;refine oe (av 1) ?_;refine oe (aF (b:=b7)) ?_;refine oe bY ?_;refine aT ?_;refine cc rfl hM (fun hc24 hM=>?_) (fun hc24 hM=>?_)
    ·refine aX (hJ3 hM sS rI)
    refine sr ?_;refine oe (av 1) ?_;refine oe (aF (b:=b7)) ?_;refine oe (av 1) ?_;refine oe (aF (b:=b2)) ?_;refine oe bL ?_;refine oe jK ?_;refine aT ?_;refine cc rfl hM (fun hc25 hM=>?_) (fun hc25 hM=>?_)
    ·refine aX (hJ3 hM sS rI)
    refine bB ?_;refine oe (av 2) ?_;refine oe (aF (b:=b7)) ?_;obtain⟨aP,hy27,hM⟩:=bind_some hM;refine cv (fun hs=>af2 _ _ x5.Weight aP hy27 (bf hs)) ?_;refine oe fq ?_;refine oa ?_;refine bC (hJ3 hM sS rI)
  clear hM;rintro Uh hM;dsimp only[Ka] at hM ⊢;refine cc rfl hM (fun hc17 hM=>?_) (fun hc17 hM=>?_)
  · refine bI ?_;exact aY (bQ hM)
  refine sr ?_;refine oe (av 3) ?_;refine oe (aF (b:=b7)) ?_;refine oe bL ?_;refine oe dU ?_;refine aT ?_;refine cc rfl hM (fun hc18 hM=>?_) (fun hc18 hM=>?_)
  · refine bI ?_;exact aY (bQ hM)
  refine aX (gV _ _ ?_);clear gV;refine sr ?_;refine oe (av 3) ?_;refine oe (aF (b:=b7)) ?_;refine mF (fun w hm=>Kn.len ((Sk.elem (Sk.dw (α:=List Line) (r:=ah.2.2.1) (x:=p0.Lines) hA) hx6)).kn hm) fun asy=>?_;refine oe bL ?_;refine om ?_;refine on ?_;refine bH ?_;refine lq hM (fun IW=>[(2,eP b1),(3,eP b2),(6,eP b7),(10,eS ah.2.2.1 p0.Lines),(11,eI (p0.Lines.length:Int)),(12,eI (jf:Int)),(50,eI (x5.aJ.length:Int)),(51,eI (IW:Int))]) (fun IW=>[iL l0.aU ay.1,iL l0.bG ay.2.1,iL l0.Sections ay.2.2.1,iL l0.Links ay.2.2.2,own b1 26 (cK l0 ay),iL p0.aR ah.1,iL p0.Routes ah.2.1,iL p0.Lines ah.2.2.1,iL p0.Changes ah.2.2.2.1,iL p0.Turns ah.2.2.2.2.1,iL p0.bE ah.2.2.2.2.2.1,iL p0.bF ah.2.2.2.2.2.2,own b2 35 (dh p0 ah),own b7 56 (kZ x5 (ah.2.2.1.es (jf:Int).toNat))]) sS rI ?_
  clear hM;rintro fE IW hM wH hL2;dsimp only[RU] at hM ⊢;refine sr ?_;refine oe bY ?_;refine on ?_;refine aK fun Gg pO=>?_;refine cc rfl hM (fun D7 hM=>?_) (fun D7 hM=>?_)
  · have ase:=of_decide_eq_true D7;refine aX (pO _ _ ?_);clear pO;refine aK fun EN nX=>?_;refine bH ?_;refine aW ?_;refine aT ?_;refine sr ?_;refine oe (bR (b:=b1)) ?_;refine oe (bR (b:=b2)) ?_;refine oe (bR (b:=b7)) ?_;refine om ?_;obtain⟨y21,QS,hM⟩:=bind_some hM;refine cv (fun hs=>apU _ _ l0 ay p0 ah x5 (ah.2.2.1.es (jf:Int).toNat) (IW:Int) y21 QS (bf hs) ⟨(kM hs),(kM hs),(kM hs),(kM hs)⟩ ⟨(kM hs),(kM hs),(kM hs),(kM hs),(kM hs),(kM hs),(kM hs)⟩ (Kn.lend ((Sk.elem (Sk.dw (α:=List Line) (r:=ah.2.2.1) (x:=p0.Lines) hA) hx6)).kn hs)) ?_;refine aT ?_;refine aW ?_;refine oe gZ ?_;refine on ?_;refine cc rfl hM (fun Jw hM=>?_) (fun Jw hM=>?_)
    ·refine aW ?_;refine aT ?_;exact aY (bQ hM)
    refine aX (nX _ _ ?_);clear nX;refine bB ?_;refine oe (eH (hr:=fun _=>by unfold gF;omega)) ?_;refine om ?_;refine bC (hL2 hM sS rI)
  refine dK (dn _ _ ?_);clear dn;dsimp only[afW] at hM;refine bB ?_;refine oe (eH (hr:=fun _=>by unfold gF;omega)) ?_;refine om ?_;refine bC (hL1 hM sS rI)
 refine dK (hK2 _ _ ?_);clear hK2;dsimp only[afV] at hM;refine bI ?_;exact aY (bQ hM)
def afT:Unit→Option Int:=fun _=>
 some 0
def V7(p0:Plan)(l0:Layout)(bA:Nat→Option Int):Nat→Option Int:=fun jf=>
 if decide ((jf:Int)<(p0.Changes.length:Int)) then
  ((idx p0.Changes (jf:Int)).bind fun x5=>
  (Hq p0 x5.fZ x5.iE).bind fun y8=>
  (fK (!(!y8)) default (Hq p0 x5.iO x5.kN)).bind fun jd=>
  (fK (!(((!y8)||(!jd))||decide (x5.fZ=x5.iO))) default (J9 p0 x5.Min x5.Max)).bind fun wF=>
  (fK (!((((!y8)||(!jd))||decide (x5.fZ=x5.iO))||(!wF))) default (RX x5.Weight)).bind fun eG=>
  if (((((!y8)||(!jd))||decide (x5.fZ=x5.iO))||(!wF))||(!eG)) then
   (some 4)
  else
   ((idx p0.Lines x5.fZ).bind fun jV=>
   (idx jV.aJ x5.iE).bind fun Ux=>
   (Kh p0 Ux).bind fun y21=>
   (idx l0.Sections y21).bind fun x23=>
   (idx p0.Lines x5.iO).bind fun x25=>
   (idx x25.aJ x5.kN).bind fun x27=>
   (Kg p0 x27).bind fun y29=>
   (idx l0.Sections y29).bind fun x31=>
   if (decide (x23.nG=(-1))||decide (x23.nG≠x31.nG)) then
    (some 11)
   else
    (bA (jf+1))))
 else
  (afT ())
def Nh(l0:Layout)(p0:Plan):Option Int:=
 iter (V7 p0 l0) FUEL 0
theorem apQ(S:bO)(w:World)(l0:Layout)(ay:aC.R Layout)(p0:Plan)(ah:aC.R Plan)(y:Int)(hM:Nh l0 p0=some y)(hS:sB S w)(dZ:aC.ok S w ay l0)(fT:aC.ok S w ah p0):
   Calls Tryz.prog 36 #[.agg (jN l0 ay),.agg (iV p0 ah)] w (dz w (vI y)):=by
 refine cu (args:=[_,_]) Tryz.func36 rfl ((pre_nil hS).start |>.lY dZ|>.nS fT) rfl ?_;unfold Nh at hM;refine sr ?_;refine oB (cK l0 ay) fun b1=>?_;refine oB (dh p0 ah) fun b2=>?_
 refine aT ?_;refine aK fun K2 hK2=>?_;refine sr ?_;refine oe (av 4) ?_;refine oe (aF (b:=b2)) ?_;refine mF (fun w hm=>Kn.len (kG p0.Changes ah.2.2.2.1) hm) fun hl3=>?_;refine oe bL ?_;refine om ?_;refine on ?_;refine bH ?_;refine lq hM (fun jf=>[(2,eP b1),(3,eP b2),(10,eS ah.2.2.2.1 p0.Changes),(11,eI (p0.Changes.length:Int)),(12,eI (jf:Int))]) (fun jf=>[iL l0.aU ay.1,iL l0.bG ay.2.1,iL l0.Sections ay.2.2.1,iL l0.Links ay.2.2.2,own b1 26 (cK l0 ay),iL p0.aR ah.1,iL p0.Routes ah.2.1,iL p0.Lines ah.2.2.1,iL p0.Changes ah.2.2.2.1,iL p0.Turns ah.2.2.2.2.1,iL p0.bE ah.2.2.2.2.2.1,iL p0.bF ah.2.2.2.2.2.2,own b2 35 (dh p0 ah)]) sS rI ?_
 clear hM;rintro bA jf hM iG hL1;dsimp only[V7] at hM ⊢;refine sr ?_;refine oe bY ?_;refine on ?_;refine aK fun K5 dI=>?_;refine cc rfl hM (fun hc4 hM=>?_) (fun hc4 hM=>?_)
 ·have Fj:=of_decide_eq_true hc4;refine aX (dI _ _ ?_);clear dI;refine aK fun K6 dn=>?_;refine bH ?_;refine sr ?_;obtain⟨x5,hx6,hM⟩:=bind_some hM;refine oe (bD (xs:=p0.Changes) 7 (kG p0.Changes ah.2.2.2.1) (iS hx6)) ?_;refine oe (fM (m:=7) (i:=(jf:Int)) (xs:=p0.Changes) (y:=x5) (l:=(Ep x5)) 0 (kG p0.Changes ah.2.2.2.1) (fun _=>hx6)) ?_;refine oA rfl fun b7=>?_;refine oS b7 (Ep x5) ?_;refine on ?_;refine aK fun K8 gV=>?_;refine sr ?_;refine oe (bR (b:=b2)) ?_;refine oe (av 0) ?_;refine oe (aF (b:=b7)) ?_;refine oe (av 1) ?_;refine oe (aF (b:=b7)) ?_;obtain⟨y8,uh,hM⟩:=bind_some hM;refine cv (fun hs=>Wo _ _ p0 ah x5.fZ x5.iE y8 uh (bf hs) ⟨(kM hs),(kM hs),(kM hs),(kM hs),(kM hs),(kM hs),(kM hs)⟩) ?_;refine oe fq ?_;refine om ?_;refine aD rfl (bR (b:=b2)) ?_
  refine aD rfl (av 2) ?_;refine aD rfl (aF (b:=b7)) ?_;refine aD rfl (av 3) ?_;refine aD rfl (aF (b:=b7)) ?_;obtain⟨jd,tZ,hM⟩:=bind_some hM;refine cg rfl (fun hg hs=>Wo _ _ p0 ah x5.iO x5.kN jd (eF tZ hg) (bf hs) ⟨(kM hs),(kM hs),(kM hs),(kM hs),(kM hs),(kM hs),(kM hs)⟩) ?_;refine aD rfl fq ?_;refine oe dQ ?_;refine om ?_;refine aD rfl (av 0) ?_;refine aD rfl (aF (b:=b7)) ?_;refine aD rfl (av 2) ?_;refine aD rfl (aF (b:=b7)) ?_;refine aD rfl dU ?_;refine oe dQ ?_;refine om ?_;refine aD rfl (bR (b:=b2)) ?_;refine aD rfl (av 4) ?_;refine aD rfl (aF (b:=b7)) ?_;refine aD rfl (av 5) ?_;refine aD rfl (aF (b:=b7)) ?_;obtain⟨wF,JF,hM⟩:=bind_some hM;refine cg rfl (fun hg hs=>abo _ _ p0 ah x5.Min x5.Max wF (eF JF hg) (bf hs) ⟨(kM hs),(kM hs),(kM hs),(kM hs),(kM hs),(kM hs),(kM hs)⟩) ?_;refine aD rfl fq ?_;refine oe dQ ?_;refine om ?_;refine aD rfl (av 6) ?_;refine aD rfl (aF (b:=b7)) ?_;obtain⟨eG,uf,hM⟩:=bind_some hM;refine cg rfl (fun hg hs=>af2 _ _ x5.Weight eG (eF uf hg) (bf hs)) ?_;refine aD rfl fq ?_
  refine oe dQ ?_;refine on ?_;refine cc rfl hM (fun hc16 hM=>?_) (fun hc16 hM=>?_)
  · refine bI ?_;exact aY (bQ hM)
  refine aX (gV _ _ ?_);clear gV;refine aK fun rQ gG=>?_;refine gy _ (List.Sublist.refl _) ?_;refine ak 0 rfl (av 2) ?_;refine ak 1 rfl (aF (b:=b1)) ?_;refine ak 2 rfl (bR (b:=b2)) ?_;refine ak 3 rfl (av 3) ?_;refine ak 4 rfl (aF (b:=b2)) ?_;refine ak 5 rfl (av 0) ?_;refine ak 6 rfl (aF (b:=b7)) ?_;obtain⟨jV,wP,hM⟩:=bind_some hM;refine ak 7 rfl (bD (xs:=p0.Lines) 4 (kG p0.Lines ah.2.2.1) (iS wP)) ?_;refine ak 8 rfl (av 3) ?_;refine ak 9 rfl (bT (i:=x5.fZ) (xs:=p0.Lines) (y:=jV) 3 (kG p0.Lines ah.2.2.1) (fun _=>wP)) ?_;refine ak 10 rfl (av 1) ?_;refine ak 11 rfl (aF (b:=b7)) ?_;obtain⟨Ux,aeS,hM⟩:=bind_some hM;refine ak 12 rfl (bD (xs:=jV.aJ) 4 ((Sk.elem (Sk.dw (α:=List Line) (r:=ah.2.2.1) (x:=p0.Lines) hA) wP)).kn (iS aeS)) ?_;refine ak 13 rfl (fM (m:=4) (i:=x5.iE) (xs:=jV.aJ) (y:=Ux) (l:=(wY Ux)) 0 ((Sk.elem (Sk.dw (α:=List Line) (r:=ah.2.2.1) (x:=p0.Lines) hA) wP)).kn (fun _=>aeS)) ?_;obtain⟨y21,QS,hM⟩:=bind_some hM;refine dH 14 rfl (sV (fun hs=>abx _ _ p0 ah Ux y21 QS (bf hs) ⟨(kM hs),(kM hs),(kM hs),(kM hs),(kM hs),(kM hs),(kM hs)⟩) ⟨rI,?_⟩)
  obtain⟨x23,hx24,hM⟩:=bind_some hM;refine ak 15 rfl (bD (xs:=l0.Sections) 5 (kG l0.Sections ay.2.2.1) (iS hx24)) ?_;refine ak 16 rfl (av 4) ?_;refine ak 17 rfl (bT (i:=y21) (xs:=l0.Sections) (y:=x23) 4 (kG l0.Sections ay.2.2.1) (fun _=>hx24)) ?_;refine ak 18 rfl dD ?_;refine dP (gG _ _ ?_);clear gG;refine aK fun zy jY=>?_;refine gy _ (List.Sublist.refl _) ?_;refine ak 0 rfl (av 2) ?_;refine ak 1 rfl (aF (b:=b1)) ?_;refine ak 2 rfl (bR (b:=b2)) ?_;refine ak 3 rfl (av 3) ?_;refine ak 4 rfl (aF (b:=b2)) ?_;refine ak 5 rfl (av 2) ?_;refine ak 6 rfl (aF (b:=b7)) ?_;obtain⟨x25,yQ,hM⟩:=bind_some hM;refine ak 7 rfl (bD (xs:=p0.Lines) 4 (kG p0.Lines ah.2.2.1) (iS yQ)) ?_;refine ak 8 rfl (av 3) ?_;refine ak 9 rfl (bT (i:=x5.iO) (xs:=p0.Lines) (y:=x25) 3 (kG p0.Lines ah.2.2.1) (fun _=>yQ)) ?_;refine ak 10 rfl (av 3) ?_;refine ak 11 rfl (aF (b:=b7)) ?_;obtain⟨x27,hx28,hM⟩:=bind_some hM;refine ak 12 rfl (bD (xs:=x25.aJ) 4 ((Sk.elem (Sk.dw (α:=List Line) (r:=ah.2.2.1) (x:=p0.Lines) hA) yQ)).kn (iS hx28)) ?_;refine ak 13 rfl (fM (m:=4) (i:=x5.kN) (xs:=x25.aJ) (y:=x27) (l:=(wY x27)) 0 ((Sk.elem (Sk.dw (α:=List Line) (r:=ah.2.2.1) (x:=p0.Lines) hA) yQ)).kn (fun _=>hx28)) ?_
  obtain⟨y29,QT,hM⟩:=bind_some hM;refine dH 14 rfl (sV (fun hs=>abw _ _ p0 ah x27 y29 QT (bf hs) ⟨(kM hs),(kM hs),(kM hs),(kM hs),(kM hs),(kM hs),(kM hs)⟩) ⟨rI,?_⟩);obtain⟨x31,hx32,hM⟩:=bind_some hM;refine ak 15 rfl (bD (xs:=l0.Sections) 5 (kG l0.Sections ay.2.2.1) (iS hx32)) ?_;refine ak 16 rfl (av 4) ?_;refine ak 17 rfl (bT (i:=y29) (xs:=l0.Sections) (y:=x31) 4 (kG l0.Sections ay.2.2.1) (fun _=>hx32)) ?_;refine ak 18 rfl dD ?_;refine dP (jY _ _ ?_);clear jY;refine aW ?_;refine oe dU ?_;refine om ?_;refine aD rfl aL ?_;refine aD rfl aL ?_;refine aD rfl gZ ?_;refine oe dQ ?_;refine on ?_;refine cc rfl hM (fun Qx hM=>?_) (fun Qx hM=>?_)
  · refine bI ?_;exact aY (bQ hM)
  refine aX (dn _ _ ?_);clear dn;refine bB ?_;refine oe (eH (hr:=fun _=>by unfold gF;omega)) ?_;refine om ?_;refine bC (hL1 hM sS rI)
 refine dK (hK2 _ _ ?_);clear hK2;dsimp only[afT] at hM;refine bI ?_;exact aY (bQ hM)
def Wn(p0:Plan)(bA:Nat→Option Int)(jf:Nat):(Str×Int×Int×(List aM)×Str×Int×Int×(List aM))→Option Int:=fun (Vf,Qe,Vg,zW,XK,Uj,XL,El)=>
 bq (bJ ((zW.length:Int)-1))<|
 (idx zW ((zW.length:Int)-1)).bind fun mW=>
 (idx El 0).bind fun x24=>
 (Kh p0 mW).bind fun aP=>
 (Kg p0 x24).bind fun y28=>
 if (decide (aP≠y28)||decide (Qe≠Uj)) then
  (some 11)
 else
  (bA (jf+1))
def af0:Unit→Option Int:=fun _=>
 some 0
def Wm(p0:Plan)(bA:Nat→Option Int):Nat→Option Int:=fun jf=>
 if decide ((jf:Int)<(p0.Turns.length:Int)) then
  ((idx p0.Turns (jf:Int)).bind fun x5=>
  (Kc p0 x5.From).bind fun y8=>
  (fK (!(!y8)) default (Kc p0 x5.To)).bind fun jd=>
  (fK (!((!y8)||(!jd))) default (J9 p0 x5.Min x5.Max)).bind fun wF=>
  if (((!y8)||(!jd))||(!wF)) then
   (some 4)
  else
   ((sub p0.Turns 0 (jf:Int)).bind fun Cu=>
   (T9 Cu x5).bind fun jW=>
   if jW then
    (some 5)
   else
    ((idx p0.Lines x5.From).bind fun x31=>
    (idx p0.Lines x5.To).bind fun au=>
    Wn p0 bA jf (x31.Name,x31.aH,x31.Weight,x31.aJ,au.Name,au.aH,au.Weight,au.aJ))))
 else
  (af0 ())
def Nr(l0:Layout)(p0:Plan):Option Int:=
 iter (Wm p0) FUEL 0
theorem ap1(S:bO)(w:World)(l0:Layout)(ay:aC.R Layout)(p0:Plan)(ah:aC.R Plan)(y:Int)(hM:Nr l0 p0=some y)(hS:sB S w)(dZ:aC.ok S w ay l0)(fT:aC.ok S w ah p0):
   Calls Tryz.prog 37 #[.agg (jN l0 ay),.agg (iV p0 ah)] w (dz w (vI y)):=by
 refine cu (args:=[_,_]) Tryz.func37 rfl ((pre_nil hS).start |>.lY dZ|>.nS fT) rfl ?_;unfold Nr at hM;refine sr ?_;refine oB (cK l0 ay) fun b1=>?_;refine oB (dh p0 ah) fun b2=>?_
 refine aT ?_;refine aK fun K2 hK2=>?_;refine sr ?_;refine oe (av 5) ?_;refine oe (aF (b:=b2)) ?_;refine mF (fun w hm=>Kn.len (kG p0.Turns ah.2.2.2.2.1) hm) fun hl3=>?_;refine oe bL ?_;refine om ?_;refine on ?_;refine bH ?_;refine lq hM (fun jf=>[(3,eP b2),(10,eS ah.2.2.2.2.1 p0.Turns),(11,eI (p0.Turns.length:Int)),(12,eI (jf:Int))]) (fun jf=>[iL p0.aR ah.1,iL p0.Routes ah.2.1,iL p0.Lines ah.2.2.1,iL p0.Changes ah.2.2.2.1,iL p0.Turns ah.2.2.2.2.1,iL p0.bE ah.2.2.2.2.2.1,iL p0.bF ah.2.2.2.2.2.2,own b2 35 (dh p0 ah)]) sS rI ?_;clear hM;rintro bA jf hM iG hL1
 dsimp only[Wm] at hM ⊢;refine sr ?_;refine oe bY ?_;refine on ?_;refine aK fun K5 dI=>?_;refine cc rfl hM (fun hc4 hM=>?_) (fun hc4 hM=>?_)
 ·have Fj:=of_decide_eq_true hc4;refine aX (dI _ _ ?_);clear dI;refine aK fun K6 dn=>?_;refine bH ?_;refine aW ?_;obtain⟨x5,hx6,hM⟩:=bind_some hM;refine oe (bD (xs:=p0.Turns) 4 (kG p0.Turns ah.2.2.2.2.1) (iS hx6)) ?_;refine oe (fM (m:=4) (i:=(jf:Int)) (xs:=p0.Turns) (y:=x5) (l:=(vg x5)) 0 (kG p0.Turns ah.2.2.2.2.1) (fun _=>hx6)) ?_;refine oA rfl fun b7=>?_;refine oa ?_;refine oS b7 (vg x5) ?_;refine on ?_;refine aK fun K8 gV=>?_;refine sr ?_;refine oe (bR (b:=b2)) ?_;refine oe (av 0) ?_;refine oe (aF (b:=b7)) ?_;obtain⟨y8,uh,hM⟩:=bind_some hM;refine cv (fun hs=>abu _ _ p0 ah x5.From y8 uh (bf hs) ⟨(kM hs),(kM hs),(kM hs),(kM hs),(kM hs),(kM hs),(kM hs)⟩) ?_;refine oe fq ?_;refine om ?_;refine aD rfl (bR (b:=b2)) ?_;refine aD rfl (av 1) ?_;refine aD rfl (aF (b:=b7)) ?_;obtain⟨jd,tZ,hM⟩:=bind_some hM;refine cg rfl (fun hg hs=>abu _ _ p0 ah x5.To jd (eF tZ hg) (bf hs) ⟨(kM hs),(kM hs),(kM hs),(kM hs),(kM hs),(kM hs),(kM hs)⟩) ?_
  refine aD rfl fq ?_;refine oe dQ ?_;refine om ?_;refine aD rfl (bR (b:=b2)) ?_;refine aD rfl (av 2) ?_;refine aD rfl (aF (b:=b7)) ?_;refine aD rfl (av 3) ?_;refine aD rfl (aF (b:=b7)) ?_;obtain⟨wF,JF,hM⟩:=bind_some hM;refine cg rfl (fun hg hs=>abo _ _ p0 ah x5.Min x5.Max wF (eF JF hg) (bf hs) ⟨(kM hs),(kM hs),(kM hs),(kM hs),(kM hs),(kM hs),(kM hs)⟩) ?_;refine aD rfl fq ?_;refine oe dQ ?_;refine on ?_;refine cc rfl hM (fun vT hM=>?_) (fun vT hM=>?_)
  · refine bI ?_;exact aY (bQ hM)
  refine aX (gV _ _ ?_);clear gV;refine aK fun rQ gG=>?_;refine sr ?_;refine oe (av 5) ?_;refine oe (aF (b:=b2)) ?_;refine om ?_;obtain⟨Cu,amr,hM⟩:=bind_some hM;refine bM (La (r:=ah.2.2.2.2.1) (xs:=p0.Turns) (ol:=none) (oh:=some (.i64,(jf:Int))) (Sk.dw (α:=List Turn) (r:=ah.2.2.2.2.1) (x:=p0.Turns) hA) amr (fun dJ=>?_));refine oe Y7 ?_;obtain⟨jW,xU,hM⟩:=bind_some hM;refine cv (fun hs=>aro _ _ Cu dJ b7 x5 jW xU (bf hs) (kM hs) (abn hA hs)) ?_;refine on ?_;refine cc rfl hM (fun D7 hM=>?_) (fun D7 hM=>?_)
  · refine bI ?_;exact aY (bQ hM)
  refine aX (gG _ _ ?_);clear gG;refine jn (Nat×Nat) y (k:=Wn p0 bA jf) (fun (Vf,Qe,Vg,zW,XK,Uj,XL,El) (Jh,L8)=>[(3,eP b2),(7,eP Jh),(8,eP L8),(10,eS ah.2.2.2.2.1 p0.Turns),(11,eI (p0.Turns.length:Int)),(12,eI (jf:Int))]) (fun (Vf,Qe,Vg,zW,XK,Uj,XL,El) (Jh,L8)=>[iL p0.aR ah.1,iL p0.Routes ah.2.1,iL p0.Lines ah.2.2.1,iL p0.Changes ah.2.2.2.1,iL p0.Turns ah.2.2.2.2.1,iL p0.bE ah.2.2.2.2.2.1,iL p0.bF ah.2.2.2.2.2.2,own b2 35 (dh p0 ah),iL zW (ah.2.2.1.es x5.From.toNat),own Jh 56 [.string Vf.ba,vI Qe,vI Vg,sL (ah.2.2.1.es x5.From.toNat) zW],iL El (ah.2.2.1.es x5.To.toNat),own L8 56 [.string XK.ba,vI Uj,vI XL,sL (ah.2.2.1.es x5.To.toNat) El]]) ?_ ?_
  · intro zC hJ2;refine gy _ (List.Sublist.refl _) ?_;refine ak 0 rfl (av 3) ?_;refine ak 1 rfl (aF (b:=b2)) ?_;refine ak 2 rfl (av 0) ?_;refine ak 3 rfl (aF (b:=b7)) ?_;obtain⟨x31,hx32,hM⟩:=bind_some hM;refine ak 4 rfl (bD (xs:=p0.Lines) 4 (kG p0.Lines ah.2.2.1) (iS hx32)) ?_;refine ak 5 rfl (fM (m:=4) (i:=x5.From) (xs:=p0.Lines) (y:=x31) (l:=(kZ x31 (ah.2.2.1.es x5.From.toNat))) 0 (kG p0.Lines ah.2.2.1) (fun _=>hx32)) ?_;refine ak 6 rfl (av 3) ?_;refine ak 7 rfl (aF (b:=b2)) ?_;refine ak 8 rfl (av 1) ?_;refine ak 9 rfl (aF (b:=b7)) ?_;obtain⟨au,hx34,hM⟩:=bind_some hM;refine ak 10 rfl (bD (xs:=p0.Lines) 4 (kG p0.Lines ah.2.2.1) (iS hx34)) ?_;refine ak 11 rfl (fM (m:=4) (i:=x5.To) (xs:=p0.Lines) (y:=au) (l:=(kZ au (ah.2.2.1.es x5.To.toNat))) 0 (kG p0.Lines ah.2.2.1) (fun _=>hx34)) ?_;refine mh 12 13 (⟨_,rfl,rfl,iw rfl (k:=fun b35=>⟨rI,?_⟩)⟩) (⟨_,rfl,rfl,iw rfl (k:=fun Px=>⟨rI,?_⟩)⟩)
    ·refine aA 13 rfl rfl fun Gs=>?_;refine aS 14 rfl b35 (kZ x31 (ah.2.2.1.es x5.From.toNat)) ?_;refine aS 15 rfl Gs (kZ au (ah.2.2.1.es x5.To.toNat)) ?_;refine BP (fun w hm=>hm.xV (α:=List aM) (r:=(ah.2.2.1.es x5.From.toNat)) (x:=x31.aJ) (fun S hs=>(Sk.elem (Sk.dw (α:=List Line) (r:=ah.2.2.1) (x:=p0.Lines) hA) hx32) S w hs)) ?_;refine BP (fun w hm=>hm.xV (α:=List aM) (r:=(ah.2.2.1.es x5.To.toNat)) (x:=au.aJ) (fun S hs=>(Sk.elem (Sk.dw (α:=List Line) (r:=ah.2.2.1) (x:=p0.Lines) hA) hx34) S w hs)) ?_;refine dP (hJ2 (b35,Gs) hM sS rI)
    refine aA 12 rfl rfl fun BQ=>?_;refine aS 14 rfl BQ (kZ x31 (ah.2.2.1.es x5.From.toNat)) ?_;refine aS 15 rfl Px (kZ au (ah.2.2.1.es x5.To.toNat)) ?_;refine BP (fun w hm=>hm.xV (α:=List aM) (r:=(ah.2.2.1.es x5.From.toNat)) (x:=x31.aJ) (fun S hs=>(Sk.elem (Sk.dw (α:=List Line) (r:=ah.2.2.1) (x:=p0.Lines) hA) hx32) S w hs)) ?_;refine BP (fun w hm=>hm.xV (α:=List aM) (r:=(ah.2.2.1.es x5.To.toNat)) (x:=au.aJ) (fun S hs=>(Sk.elem (Sk.dw (α:=List Line) (r:=ah.2.2.1) (x:=p0.Lines) hA) hx34) S w hs)) ?_;refine dP (hJ2 (BQ,Px) hM sS rI)
  clear hM;rintro⟨Vf,Qe,Vg,zW,XK,Uj,XL,El⟩ ⟨Jh,L8⟩ hM;dsimp only[Wn] at hM ⊢;refine aK fun BN mq=>?_;refine gy _ (List.Sublist.refl _) ?_;refine ak 0 rfl (bR (b:=b2)) ?_;refine ak 1 rfl (av 3) ?_;refine ak 2 rfl (aF (b:=Jh)) ?_;refine ak 3 rfl (av 3) ?_;refine ak 4 rfl (aF (b:=Jh)) ?_;refine ak 5 rfl bL ?_;obtain⟨Zl,hM⟩:=bW hM;refine ak 6 rfl (ng (hr:=fun hg=>dY Zl)) ?_;obtain⟨mW,GR,hM⟩:=bind_some hM;refine ak 7 rfl (bD (xs:=zW) 4 (kG zW (ah.2.2.1.es x5.From.toNat)) (iS GR)) ?_;refine ak 8 rfl (fM (m:=4) (i:=((zW.length:Int)-1)) (xs:=zW) (y:=mW) (l:=(wY mW)) 0 (kG zW (ah.2.2.1.es x5.From.toNat)) (fun _=>GR)) ?_;refine ak 10 rfl (bR (b:=b2)) ?_;refine ak 11 rfl (av 3) ?_;refine ak 12 rfl (aF (b:=L8)) ?_;obtain⟨x24,hx25,hM⟩:=bind_some hM;refine ak 13 rfl (bD (xs:=El) 4 (kG El (ah.2.2.1.es x5.To.toNat)) (iS hx25)) ?_;refine ak 14 rfl (fM (m:=4) (i:=0) (xs:=El) (y:=x24) (l:=(wY x24)) 0 (kG El (ah.2.2.1.es x5.To.toNat)) (fun _=>hx25)) ?_
  obtain⟨aP,hy27,hM⟩:=bind_some hM;refine dH 9 rfl (sV (fun hs=>abx _ _ p0 ah mW aP hy27 (bf hs) ⟨(kM hs),(kM hs),(kM hs),(kM hs),(kM hs),(kM hs),(kM hs)⟩) ⟨rI,?_⟩);obtain⟨y28,hy29,hM⟩:=bind_some hM;refine dH 15 rfl (sV (fun hs=>abw _ _ p0 ah x24 y28 hy29 (bf hs) ⟨(kM hs),(kM hs),(kM hs),(kM hs),(kM hs),(kM hs),(kM hs)⟩) ⟨rI,?_⟩);refine ak 16 rfl gZ ?_;refine ak 17 rfl aL ?_;refine dO 18 rfl rfl (av 1) ?_;refine dO 19 rfl rfl (aF (b:=Jh)) ?_;refine dO 20 rfl rfl (av 1) ?_;refine dO 21 rfl rfl (aF (b:=L8)) ?_;refine dO 22 rfl rfl gZ ?_;refine ak 23 rfl dQ ?_;refine dP (mq _ _ ?_);clear mq;refine cc rfl hM (fun D8 hM=>?_) (fun D8 hM=>?_)
  · refine bI ?_;exact aY (bQ hM)
  refine aX (dn _ _ ?_);clear dn;refine bB ?_;refine oe (eH (hr:=fun _=>by unfold gF;omega)) ?_;refine om ?_;refine bC (hL1 hM sS rI)
 refine dK (hK2 _ _ ?_);clear hK2;dsimp only[af0] at hM;refine bI ?_;exact aY (bQ hM)
def afZ:Unit→Option Int:=fun _=>
 some 0
def Wj(p0:Plan)(bA:Nat→Option Int):Nat→Option Int:=fun gL=>
 if decide ((gL:Int)<(p0.bE.length:Int)) then
  ((idx p0.bE (gL:Int)).bind fun x5=>
  (Hq p0 x5.mJ x5.lG).bind fun y8=>
  (fK (!(!y8)) default (Hq p0 x5.mP x5.lN)).bind fun jd=>
  if (((((!y8)||(!jd))||(decide (x5.mJ=x5.mP)&&decide (x5.lG=x5.lN)))||decide (x5.Offset<0))||decide (p0.bU≤x5.Offset)) then
   (some 4)
  else
   (bA (gL+1)))
 else
  (afZ ())
def Nq(l0:Layout)(p0:Plan):Option Int:=
 iter (Wj p0) FUEL 0
theorem apZ(S:bO)(w:World)(l0:Layout)(ay:aC.R Layout)(p0:Plan)(ah:aC.R Plan)(y:Int)(hM:Nq l0 p0=some y)(hS:sB S w)(dZ:aC.ok S w ay l0)(fT:aC.ok S w ah p0):
   Calls Tryz.prog 38 #[.agg (jN l0 ay),.agg (iV p0 ah)] w (dz w (vI y)):=by
 refine cu (args:=[_,_]) Tryz.func38 rfl ((pre_nil hS).start |>.lY dZ|>.nS fT) rfl ?_;unfold Nq at hM;refine sr ?_;refine oB (cK l0 ay) fun b1=>?_;refine oB (dh p0 ah) fun b2=>?_
 refine aT ?_;refine aK fun K2 hK2=>?_;refine sr ?_;refine oe (av 6) ?_;refine oe (aF (b:=b2)) ?_;refine mF (fun w hm=>Kn.len (kG p0.bE ah.2.2.2.2.2.1) hm) fun hl3=>?_;refine oe bL ?_;refine om ?_;refine on ?_;refine bH ?_;refine lq hM (fun gL=>[(3,eP b2),(8,eS ah.2.2.2.2.2.1 p0.bE),(9,eI (p0.bE.length:Int)),(10,eI (gL:Int))]) (fun gL=>[iL p0.aR ah.1,iL p0.Routes ah.2.1,iL p0.Lines ah.2.2.1,iL p0.Changes ah.2.2.2.1,iL p0.Turns ah.2.2.2.2.1,iL p0.bE ah.2.2.2.2.2.1,iL p0.bF ah.2.2.2.2.2.2,own b2 35 (dh p0 ah)]) sS rI ?_;clear hM;rintro bA gL hM iG hL1
 dsimp only[Wj] at hM ⊢;refine sr ?_;refine oe bY ?_;refine on ?_;refine aK fun K5 dI=>?_;refine cc rfl hM (fun hc4 hM=>?_) (fun hc4 hM=>?_)
 ·have Fj:=of_decide_eq_true hc4;refine aX (dI _ _ ?_);clear dI;refine aK fun K6 dn=>?_;refine bH ?_;refine sr ?_;obtain⟨x5,hx6,hM⟩:=bind_some hM;refine oe (bD (xs:=p0.bE) 5 (kG p0.bE ah.2.2.2.2.2.1) (iS hx6)) ?_;refine oe (fM (m:=5) (i:=(gL:Int)) (xs:=p0.bE) (y:=x5) (l:=(FK x5)) 0 (kG p0.bE ah.2.2.2.2.2.1) (fun _=>hx6)) ?_;refine oA rfl fun b7=>?_;refine oS b7 (FK x5) ?_;refine on ?_;refine sr ?_;refine oe (bR (b:=b2)) ?_;refine oe (av 0) ?_;refine oe (aF (b:=b7)) ?_;refine oe (av 1) ?_;refine oe (aF (b:=b7)) ?_;obtain⟨y8,uh,hM⟩:=bind_some hM;refine cv (fun hs=>Wo _ _ p0 ah x5.mJ x5.lG y8 uh (bf hs) ⟨(kM hs),(kM hs),(kM hs),(kM hs),(kM hs),(kM hs),(kM hs)⟩) ?_;refine oe fq ?_;refine om ?_;refine aD rfl (bR (b:=b2)) ?_;refine aD rfl (av 2) ?_;refine aD rfl (aF (b:=b7)) ?_;refine aD rfl (av 3) ?_
  refine aD rfl (aF (b:=b7)) ?_;obtain⟨jd,tZ,hM⟩:=bind_some hM;refine cg rfl (fun hg hs=>Wo _ _ p0 ah x5.mP x5.lN jd (eF tZ hg) (bf hs) ⟨(kM hs),(kM hs),(kM hs),(kM hs),(kM hs),(kM hs),(kM hs)⟩) ?_;refine aD rfl fq ?_;refine oe dQ ?_;refine om ?_;refine aD rfl (av 0) ?_;refine aD rfl (aF (b:=b7)) ?_;refine aD rfl (av 2) ?_;refine aD rfl (aF (b:=b7)) ?_;refine aD rfl dU ?_;refine aD rfl aL ?_;refine aD rfl (av 1) ?_;refine aD rfl (aF (b:=b7)) ?_;refine aD rfl (av 3) ?_;refine aD rfl (aF (b:=b7)) ?_;refine aD rfl dU ?_;refine aD rfl dG ?_;refine oe dQ ?_;refine om ?_;refine aD rfl (av 4) ?_;refine aD rfl (aF (b:=b7)) ?_;refine aD rfl bY ?_;refine oe dQ ?_;refine om ?_;refine aD rfl (av 4) ?_;refine aD rfl (aF (b:=b7)) ?_;refine aD rfl (av 0) ?_;refine aD rfl (aF (b:=b2)) ?_;refine aD rfl jK ?_;refine oe dQ ?_;refine on ?_;refine cc rfl hM (fun qD hM=>?_) (fun qD hM=>?_)
  · refine bI ?_;exact aY (bQ hM)
  refine aX (dn _ _ ?_);clear dn;refine bB ?_;refine oe (eH (hr:=fun _=>by unfold gF;omega)) ?_;refine om ?_;refine bC (hL1 hM sS rI)
 refine dK (hK2 _ _ ?_);clear hK2;dsimp only[afZ] at hM;refine bI ?_;exact aY (bQ hM)
def afU:Unit→Option Int:=fun _=>
 some 0
def V8(p0:Plan)(l0:Layout)(bA:Nat→Option Int):Nat→Option Int:=fun gL=>
 if decide ((gL:Int)<(p0.bF.length:Int)) then
  ((idx p0.bF (gL:Int)).bind fun x5=>
  if ((((((decide (x5.From<0)||decide ((l0.aU.length:Int)≤x5.From))||decide (x5.To<0))||decide ((l0.aU.length:Int)≤x5.To))||decide (x5.From=x5.To))||decide (x5.Weight<1))||decide (1048576<x5.Weight)) then
   (some 4)
  else
   (bA (gL+1)))
 else
  (afU ())
def Ni(l0:Layout)(p0:Plan):Option Int:=
 iter (V8 p0 l0) FUEL 0
theorem apR(S:bO)(w:World)(l0:Layout)(ay:aC.R Layout)(p0:Plan)(ah:aC.R Plan)(y:Int)(hM:Ni l0 p0=some y)(hS:sB S w)(dZ:aC.ok S w ay l0)(fT:aC.ok S w ah p0):
   Calls Tryz.prog 39 #[.agg (jN l0 ay),.agg (iV p0 ah)] w (dz w (vI y)):=by
 refine cu (args:=[_,_]) Tryz.func39 rfl ((pre_nil hS).start |>.lY dZ|>.nS fT) rfl ?_;unfold Ni at hM;refine sr ?_;refine oB (cK l0 ay) fun b1=>?_;refine oB (dh p0 ah) fun b2=>?_
 refine aT ?_;refine aK fun K2 hK2=>?_;refine sr ?_;refine oe (av 7) ?_;refine oe (aF (b:=b2)) ?_;refine mF (fun w hm=>Kn.len (kG p0.bF ah.2.2.2.2.2.2) hm) fun hl3=>?_;refine oe bL ?_;refine om ?_;refine on ?_;refine bH ?_;refine lq hM (fun gL=>[(2,eP b1),(8,eS ah.2.2.2.2.2.2 p0.bF),(9,eI (p0.bF.length:Int)),(10,eI (gL:Int))]) (fun gL=>[iL l0.aU ay.1,iL l0.bG ay.2.1,iL l0.Sections ay.2.2.1,iL l0.Links ay.2.2.2,own b1 26 (cK l0 ay),iL p0.bF ah.2.2.2.2.2.2]) sS rI ?_;clear hM;rintro bA gL hM iG hL1;dsimp only[V8] at hM ⊢;refine sr ?_;refine oe bY ?_;refine on ?_;refine aK fun K5 dI=>?_;refine cc rfl hM (fun hc4 hM=>?_) (fun hc4 hM=>?_)
 ·have Fj:=of_decide_eq_true hc4;refine aX (dI _ _ ?_);clear dI;refine aK fun K6 dn=>?_;refine bH ?_;refine sr ?_;obtain⟨x5,hx6,hM⟩:=bind_some hM;refine oe (bD (xs:=p0.bF) 3 (kG p0.bF ah.2.2.2.2.2.2) (iS hx6)) ?_;refine oe (fM (m:=3) (i:=(gL:Int)) (xs:=p0.bF) (y:=x5) (l:=(FJ x5)) 0 (kG p0.bF ah.2.2.2.2.2.2) (fun _=>hx6)) ?_;refine oA rfl fun b7=>?_;refine oS b7 (FJ x5) ?_;refine on ?_;refine sr ?_;refine oe (av 0) ?_;refine oe (aF (b:=b7)) ?_;refine oe bY ?_;refine om ?_;refine aD rfl (av 0) ?_;refine aD rfl (aF (b:=b7)) ?_;refine aD rfl (av 0) ?_;refine aD rfl (aF (b:=b1)) ?_;refine aD rfl bL ?_;refine aD rfl jK ?_;refine oe dQ ?_;refine om ?_;refine aD rfl (av 1) ?_;refine aD rfl (aF (b:=b7)) ?_;refine aD rfl bY ?_;refine oe dQ ?_;refine om ?_;refine aD rfl (av 1) ?_;refine aD rfl (aF (b:=b7)) ?_;refine aD rfl (av 0) ?_;refine aD rfl (aF (b:=b1)) ?_
  refine aD rfl bL ?_;refine aD rfl jK ?_;refine oe dQ ?_;refine om ?_;refine aD rfl (av 0) ?_;refine aD rfl (aF (b:=b7)) ?_;refine aD rfl (av 1) ?_;refine aD rfl (aF (b:=b7)) ?_;refine aD rfl dU ?_;refine oe dQ ?_;refine om ?_;refine aD rfl (av 2) ?_;refine aD rfl (aF (b:=b7)) ?_;refine aD rfl bY ?_;refine oe dQ ?_;refine om ?_;refine aD rfl (av 2) ?_;refine aD rfl (aF (b:=b7)) ?_;refine aD rfl gM ?_;refine oe dQ ?_;refine on ?_;refine cc rfl hM (fun hc8 hM=>?_) (fun hc8 hM=>?_)
  · refine bI ?_;exact aY (bQ hM)
  refine aX (dn _ _ ?_);clear dn;refine bB ?_;refine oe (eH (hr:=fun _=>by unfold gF;omega)) ?_;refine om ?_;refine bC (hL1 hM sS rI)
 refine dK (hK2 _ _ ?_);clear hK2;dsimp only[afU] at hM;refine bI ?_;exact aY (bQ hM)
def V5(x:Nat)(l0:Layout)(p0:Plan):Option Int:=
 if x=32 then Nn l0 p0
 else if x=33 then Np l0 p0
 else if x=34 then Nl l0 p0
 else if x=35 then Nj l0 p0
 else if x=36 then Nh l0 p0
 else if x=37 then Nr l0 p0
 else if x=38 then Nq l0 p0
 else if x=39 then Ni l0 p0
 else none
theorem apN{i:Int}{x:Nat}(h:idx ([32,33,34,35,36,37,38,39]:List Nat) i=some x):callable Tryz.prog x=true:=by
 have hm:=List.mem_of_getElem? (nH h).2.2
 simp only[List.mem_cons,List.not_mem_nil,or_false] at hm
 rcases hm with rfl|rfl|rfl|rfl|rfl|rfl|rfl|rfl
 ·exact (show callable Tryz.prog 32=true by kernel_rfl)
 ·exact (show callable Tryz.prog 33=true by kernel_rfl)
 ·exact (show callable Tryz.prog 34=true by kernel_rfl)
 ·exact (show callable Tryz.prog 35=true by kernel_rfl)
 ·exact (show callable Tryz.prog 36=true by kernel_rfl)
 ·exact (show callable Tryz.prog 37=true by kernel_rfl)
 ·exact (show callable Tryz.prog 38=true by kernel_rfl)
 ·exact (show callable Tryz.prog 39=true by kernel_rfl)
theorem apO(x:Nat)(S:bO)(w:World)(l0:Layout)(ay:aC.R Layout)(p0:Plan)(ah:aC.R Plan)(y:Int)(hM:V5 x l0 p0=some y)(hS:sB S w)(dZ:aC.ok S w ay l0)(fT:aC.ok S w ah p0):
  Calls Tryz.prog x #[.agg (jN l0 ay),.agg (iV p0 ah)] w (dz w (vI y)):=by
 unfold V5 at hM
 split at hM
 ·rename_i h;subst h;exact apW S w l0 ay p0 ah y hM hS dZ fT
 split at hM
 ·rename_i h;subst h;exact apY S w l0 ay p0 ah y hM hS dZ fT
 split at hM
 ·rename_i h;subst h;exact apV S w l0 ay p0 ah y hM hS dZ fT
 split at hM
 ·rename_i h;subst h;exact apT S w l0 ay p0 ah y hM hS dZ fT
 split at hM
 ·rename_i h;subst h;exact apQ S w l0 ay p0 ah y hM hS dZ fT
 split at hM
 ·rename_i h;subst h;exact ap1 S w l0 ay p0 ah y hM hS dZ fT
 split at hM
 ·rename_i h;subst h;exact apZ S w l0 ay p0 ah y hM hS dZ fT
 split at hM
 ·rename_i h;subst h;exact apR S w l0 ay p0 ah y hM hS dZ fT
 cases hM
def afQ:Unit→Option Int:=fun _=>
 some 0
def V4(l0:Layout)(p0:Plan)(bA:Nat→Option Int):Nat→Option Int:=fun uH=>
 if decide ((uH:Int)<8) then
  ((idx ([32,33,34,35,36,37,38,39]:List Nat) (uH:Int)).bind fun x5=>
  (V5 x5 l0 p0).bind fun y7=>
  if decide (y7≠0) then
   (some y7)
  else
   (bA (uH+1)))
 else
  (afQ ())
def Ho(l0:Layout)(p0:Plan):Option Int:=
 iter (V4 l0 p0) FUEL 0
theorem V6(S:bO)(w:World)(l0:Layout)(ay:aC.R Layout)(p0:Plan)(ah:aC.R Plan)(y:Int)(hM:Ho l0 p0=some y)(hS:sB S w)(dZ:aC.ok S w ay l0)(fT:aC.ok S w ah p0):
   Calls Tryz.prog 13 #[.agg (jN l0 ay),.agg (iV p0 ah)] w (dz w (vI y)):=by
 refine cu (args:=[_,_]) Tryz.func13 rfl ((pre_nil hS).start |>.lY dZ|>.nS fT) rfl ?_;unfold Ho at hM;refine sr ?_;refine oB (cK l0 ay) fun b1=>?_;refine oB (dh p0 ah) fun b2=>?_
 refine aT ?_;refine sr ?_;refine oe (gI [.func (.func 32) #[] #[],.func (.func 33) #[] #[],.func (.func 34) #[] #[],.func (.func 35) #[] #[],.func (.func 36) #[] #[],.func (.func 37) #[] #[],.func (.func 38) #[] #[],.func (.func 39) #[] #[]]) ?_;refine oA rfl fun b3=>?_;refine oS b3 [.func (.func 32) #[] #[],.func (.func 33) #[] #[],.func (.func 34) #[] #[],.func (.func 35) #[] #[],.func (.func 36) #[] #[],.func (.func 37) #[] #[],.func (.func 38) #[] #[],.func (.func 39) #[] #[]] ?_;refine on ?_;refine aK fun K3 hK3=>?_;refine sr ?_;refine oe (bR (b:=b3)) ?_;refine om ?_;refine on ?_;refine bH ?_;refine lq hM (fun uH=>[(2,eP b1),(3,eP b2),(10,.v (.agg #[.func (.func 32) #[] #[],.func (.func 33) #[] #[],.func (.func 34) #[] #[],.func (.func 35) #[] #[],.func (.func 36) #[] #[],.func (.func 37) #[] #[],.func (.func 38) #[] #[],.func (.func 39) #[] #[]])),(11,eI (uH:Int))]) (fun uH=>[iL l0.aU ay.1,iL l0.bG ay.2.1,iL l0.Sections ay.2.2.1,iL l0.Links ay.2.2.2,own b1 26 (cK l0 ay),iL p0.aR ah.1,iL p0.Routes ah.2.1,iL p0.Lines ah.2.2.1,iL p0.Changes ah.2.2.2.1,iL p0.Turns ah.2.2.2.2.1,iL p0.bE ah.2.2.2.2.2.1,iL p0.bF ah.2.2.2.2.2.2,own b2 35 (dh p0 ah)]) sS rI ?_
 clear hM;rintro bA uH hM iG hL1;dsimp only[V4] at hM ⊢;refine sr ?_;refine oe bY ?_;refine on ?_;refine aK fun K6 dn=>?_;refine cc rfl hM (fun hc4 hM=>?_) (fun hc4 hM=>?_)
 ·have Fj:=of_decide_eq_true hc4;refine aX (dn _ _ ?_);clear dn;refine aK fun K7 eu=>?_;refine bH ?_;refine sr ?_;obtain⟨x5,hx6,hM⟩:=bind_some hM;refine oe (ajC (xs:=([32,33,34,35,36,37,38,39]:List Nat)) [.func (.func 32) #[] #[],.func (.func 33) #[] #[],.func (.func 34) #[] #[],.func (.func 35) #[] #[],.func (.func 36) #[] #[],.func (.func 37) #[] #[],.func (.func 38) #[] #[],.func (.func 39) #[] #[]] (fun _=>hx6)) ?_;refine aT ?_;refine aW ?_;refine oe (bR (b:=b1)) ?_;refine oe (bR (b:=b2)) ?_;obtain⟨y7,Fz,hM⟩:=bind_some hM;refine bM (XD (vs:=[.agg (jN l0 ay),.agg (iV p0 ah)]) (cap:=[]) (hf:=apN hx6) (fun w hm=>let ⟨S,hs⟩:=hm;apO x5 _ w l0 ay p0 ah y7 Fz (bf hs) ⟨(kM hs),(kM hs),(kM hs),(kM hs)⟩ ⟨(kM hs),(kM hs),(kM hs),(kM hs),(kM hs),(kM hs),(kM hs)⟩) ?_)
  refine aT ?_;refine aW ?_;refine oe gZ ?_;refine on ?_;refine cc rfl hM (fun qV hM=>?_) (fun qV hM=>?_)
  · refine aW ?_;refine aT ?_;exact aY (bQ hM)
  refine aX (eu _ _ ?_);clear eu;refine bB ?_;refine oe (eH (hr:=fun _=>by unfold gF;omega)) ?_;refine om ?_;refine bC (hL1 hM sS rI)
 refine dK (hK3 _ _ ?_);clear hK3;dsimp only[afQ] at hM;refine bI ?_;exact aY (bQ hM)
end Go.Proofs.YtcalibhfgdncaaaGreatDoor

/- Models of functions, and that the code computes them. -/
import Derived.Test.YtcalibhfgdncaaaGreatDoorPq
import Derived.Test.YtcalibhfgdncaaaGreatDoorPr
import Derived.Test.YtcalibhfgdncaaaGreatDoorWa
set_option linter.all false
namespace Go.Proofs.YtcalibhfgdncaaaGreatDoor
open Go.Dc Go.RowKit
set_option maxRecDepth 10000
def aaC(p0:Plan):Unit→Option Int:=fun _=>
 if (decide (p0.bR<2)||decide (7200<p0.bR)) then
  (some 4)
 else
  (some 0)
def Ru(p0:Plan)(aY:Nat→Option Int):Nat→Option Int:=fun D7=>
 if decide ((D7:Int)<(p0.Lines.length:Int)) then
  ((idx p0.Lines (D7:Int)).bind fun x9=>
  if decide (12<(x9.bL.length:Int)) then
   (some 7)
  else
   (aY (D7+1)))
 else
  (aaC p0 ())
def Ct(p0:Plan):Bool→Option Int:=fun Tv=>
 if Tv then
  (some 7)
 else
  (iter (Ru p0) FUEL 0)
def MX(l0:Layout)(p0:Plan):Option Int:=
 (LY l0).bind fun y3=>
 if decide (y3≠0) then
  (some 1)
 else
  (if decide (8<(p0.aU.length:Int)) then
   (Ct p0 (decide (8<(p0.aU.length:Int))))
  else
   (if decide (48<(p0.Routes.length:Int)) then
    (Ct p0 (decide (48<(p0.Routes.length:Int))))
   else
    (if decide (16<(p0.Lines.length:Int)) then
     (Ct p0 (decide (16<(p0.Lines.length:Int))))
    else
     (if decide (32<(p0.Changes.length:Int)) then
      (Ct p0 (decide (32<(p0.Changes.length:Int))))
     else
      (if decide (32<(p0.Turns.length:Int)) then
       (Ct p0 (decide (32<(p0.Turns.length:Int))))
      else
       (if decide (32<(p0.bq.length:Int)) then
        (Ct p0 (decide (32<(p0.bq.length:Int))))
       else
        (Ct p0 (decide (32<(p0.bg.length:Int))))))))))
theorem anF(S:bB)(w:World)(l0:Layout)(aC:ak.R Layout)(p0:Plan)(au:ak.R Plan)(y:Int)(hM:MX l0 p0=some y)(hS:sB S w)(fG:ak.ok S w aC l0)(gI:ak.ok S w au p0):
   Calls Tryz.prog 32 #[.agg (lC l0 aC),.agg (mY p0 au)] w (cu w (vI y)):=by
 refine bP (args:=[_,_]) Tryz.func32 rfl ((pre_nil hS).start |>.lS fG|>.oC gI) rfl ?_;unfold MX at hM;refine sr ?_;refine oB (dP l0 aC) fun b1=>?_;refine oB (gZ p0 au) fun b2=>?_
 refine aP ?_;refine aG fun K2 hK2=>?_;refine bF ?_;refine sr ?_;refine oe (bX (b:=b1)) ?_;obtain⟨y3,hy4,hM⟩:=bind_some hM;refine cv (fun hs=>aaj _ _ l0 aC y3 hy4 (bC hs) ⟨(kM hs),(kM hs),(kM hs),(kM hs)⟩) ?_;refine oe iy ?_;refine aP ?_;refine cc rfl hM (fun jA hM=>?_) (fun jA hM=>?_)
 ·refine bD ?_;exact aW (bN hM)
 refine jm y (k:=Ct p0) (fun Tv=>[(3,eP b2),(11,.v (.bool Tv))]) (fun Tv=>[iL p0.aU au.1,iL p0.Routes au.2.1,iL p0.Lines au.2.2.1,iL p0.Changes au.2.2.2.1,iL p0.Turns au.2.2.2.2.1,iL p0.bq au.2.2.2.2.2.1,iL p0.bg au.2.2.2.2.2.2,own b2 35 (gZ p0 au)]) ?_ ?_
 ·intro wX fB;refine sr ?_;refine oe (aD 1) ?_;refine oe (aJ (b:=b2)) ?_;refine oe bJ ?_;refine oe iw ?_;refine aP ?_;refine cc rfl hM (fun zl hM=>?_) (fun zl hM=>?_)
  · refine aX (fB hM sS rI)
  refine sr ?_;refine oe (aD 2) ?_;refine oe (aJ (b:=b2)) ?_;refine oe bJ ?_;refine oe iw ?_;refine aP ?_;refine cc rfl hM (fun EI hM=>?_) (fun EI hM=>?_)
  · refine aX (fB hM sS rI)
  refine sr ?_;refine oe (aD 3) ?_;refine oe (aJ (b:=b2)) ?_;refine oe bJ ?_;refine oe iw ?_;refine aP ?_;refine cc rfl hM (fun hc16 hM=>?_) (fun hc16 hM=>?_)
  · refine aX (fB hM sS rI)
  refine sr ?_;refine oe (aD 4) ?_;refine oe (aJ (b:=b2)) ?_;refine oe bJ ?_;refine oe iw ?_;refine aP ?_;refine cc rfl hM (fun hc17 hM=>?_) (fun hc17 hM=>?_)
  · refine aX (fB hM sS rI)
  refine sr ?_;refine oe (aD 5) ?_;refine oe (aJ (b:=b2)) ?_;refine oe bJ ?_;refine oe iw ?_;refine aP ?_;refine cc rfl hM (fun hc18 hM=>?_) (fun hc18 hM=>?_)
  · refine aX (fB hM sS rI)
  refine sr ?_;refine oe (aD 6) ?_;refine oe (aJ (b:=b2)) ?_;refine oe bJ ?_;refine oe iw ?_;refine aP ?_;refine cc rfl hM (fun hc19 hM=>?_) (fun hc19 hM=>?_)
  · refine aX (fB hM sS rI)
  refine aZ ?_;refine oe (aD 7) ?_;refine oe (aJ (b:=b2)) ?_;refine oe bJ ?_;refine oe iw ?_;refine oa ?_;refine bf (fB hM sS rI)
 clear hM;rintro Tv hM;dsimp only[Ct] at hM ⊢;refine cc rfl hM (fun hc6 hM=>?_) (fun hc6 hM=>?_)
 ·refine bD ?_;exact aW (bN hM)
 refine aX (hK2 _ _ ?_);clear hK2;refine aG fun K6 bZ=>?_;refine sr ?_;refine oe (aD 3) ?_;refine oe (aJ (b:=b2)) ?_;refine iO (fun w hm=>Kn.len (kG p0.Lines au.2.2.1) hm) fun hl7=>?_;refine oe bJ ?_;refine om ?_;refine on ?_;refine bF ?_;refine lq hM (fun D7=>[(3,eP b2),(41,eS au.2.2.1 p0.Lines),(42,eI (p0.Lines.length:Int)),(43,eI (D7:Int))]) (fun D7=>[iL p0.aU au.1,iL p0.Routes au.2.1,iL p0.Lines au.2.2.1,iL p0.Changes au.2.2.2.1,iL p0.Turns au.2.2.2.2.1,iL p0.bq au.2.2.2.2.2.1,iL p0.bg au.2.2.2.2.2.2,own b2 35 (gZ p0 au)]) sS rI ?_;clear hM;rintro aY D7 hM gu hL1;dsimp only[Ru] at hM ⊢
 refine sr ?_;refine oe cO ?_;refine on ?_;refine aG fun K9 dU=>?_;refine cc rfl hM (fun hc8 hM=>?_) (fun hc8 hM=>?_)
 ·have aqz:=of_decide_eq_true hc8;refine aX (dU _ _ ?_);clear dU;refine aG fun uN gX=>?_;refine bF ?_;refine sr ?_;obtain⟨x9,ni,hM⟩:=bind_some hM;refine oe (bI (xs:=p0.Lines) 4 (kG p0.Lines au.2.2.1) (iS ni)) ?_;refine oe (fO (m:=4) (i:=(D7:Int)) (xs:=p0.Lines) (y:=x9) (l:=(mV x9 (au.2.2.1.es (D7:Int).toNat))) 0 (kG p0.Lines au.2.2.1) (fun _=>ni)) ?_;refine oA rfl fun b11=>?_;refine oS b11 (mV x9 (au.2.2.1.es (D7:Int).toNat)) ?_;refine on ?_;refine sr ?_;refine oe (aD 3) ?_;refine oe (aJ (b:=b11)) ?_;refine oe bJ ?_;refine oe iw ?_;refine on ?_;refine cc rfl hM (fun vX hM=>?_) (fun vX hM=>?_)
  · refine bD ?_;exact aW (bN hM)
  refine aX (gX _ _ ?_);clear gX;refine aZ ?_;refine oe (dH (hr:=fun _=>by unfold d9;omega)) ?_;refine om ?_;refine bf (hL1 hM sS rI)
 refine dL (bZ _ _ ?_);clear bZ;dsimp only[aaC] at hM;refine aG fun Ej ng=>?_;refine sr ?_;refine oe (aD 0) ?_;refine oe (aJ (b:=b2)) ?_;refine oe cO ?_;refine om ?_;refine av rfl (aD 0) ?_;refine av rfl (aJ (b:=b2)) ?_;refine av rfl iw ?_;refine oe eT ?_;refine on ?_;refine cc rfl hM (fun BS hM=>?_) (fun BS hM=>?_)
 ·refine bD ?_;exact aW (bN hM)
 refine aX (ng _ _ ?_);clear ng;refine bD ?_;exact aW (bN hM)
def ae5:Unit→Option Int:=fun _=>
 some 0
def Vv(p0:Plan)(aY:Nat→Option Int):Nat→Option Int:=fun gq=>
 if decide ((gq:Int)<(p0.aU.length:Int)) then
  ((idx p0.aU (gq:Int)).bind fun x5=>
  (NY x5.Name).bind fun y8=>
  if (!y8) then
   (some 3)
  else
   ((sub p0.aU 0 (gq:Int)).bind fun JF=>
   (S9 JF x5).bind fun dN=>
   if dN then
    (some 5)
   else
    ((OX x5).bind fun yZ=>
    if (!yZ) then
     (some 4)
    else
     (aY (gq+1)))))
 else
  (ae5 ())
def MZ(l0:Layout)(p0:Plan):Option Int:=
 iter (Vv p0) FUEL 0
theorem anH(S:bB)(w:World)(l0:Layout)(aC:ak.R Layout)(p0:Plan)(au:ak.R Plan)(y:Int)(hM:MZ l0 p0=some y)(hS:sB S w)(fG:ak.ok S w aC l0)(gI:ak.ok S w au p0):
   Calls Tryz.prog 33 #[.agg (lC l0 aC),.agg (mY p0 au)] w (cu w (vI y)):=by
 refine bP (args:=[_,_]) Tryz.func33 rfl ((pre_nil hS).start |>.lS fG|>.oC gI) rfl ?_;unfold MZ at hM;refine sr ?_;refine oB (dP l0 aC) fun b1=>?_;refine oB (gZ p0 au) fun b2=>?_
 refine aP ?_;refine aG fun K2 hK2=>?_;refine sr ?_;refine oe (aD 1) ?_;refine oe (aJ (b:=b2)) ?_;refine iO (fun w hm=>Kn.len (kG p0.aU au.1) hm) fun hl3=>?_;refine oe bJ ?_;refine om ?_;refine on ?_;refine bF ?_;refine lq hM (fun gq=>[(3,eP b2),(8,eS au.1 p0.aU),(9,eI (p0.aU.length:Int)),(10,eI (gq:Int))]) (fun gq=>[iL p0.aU au.1,iL p0.Routes au.2.1,iL p0.Lines au.2.2.1,iL p0.Changes au.2.2.2.1,iL p0.Turns au.2.2.2.2.1,iL p0.bq au.2.2.2.2.2.1,iL p0.bg au.2.2.2.2.2.2,own b2 35 (gZ p0 au)]) sS rI ?_;clear hM;rintro aY gq hM gu hL1;dsimp only[Vv] at hM ⊢
 refine sr ?_;refine oe cO ?_;refine on ?_;refine aG fun K5 bS=>?_;refine cc rfl hM (fun hc4 hM=>?_) (fun hc4 hM=>?_)
 ·have EL:=of_decide_eq_true hc4;refine aX (bS _ _ ?_);clear bS;refine aG fun K6 bZ=>?_;refine bF ?_;refine aO ?_;obtain⟨x5,hx6,hM⟩:=bind_some hM;refine oe (bI (xs:=p0.aU) 5 (kG p0.aU au.1) (iS hx6)) ?_;refine oe (fO (m:=5) (i:=(gq:Int)) (xs:=p0.aU) (y:=x5) (l:=(sF x5)) 0 (kG p0.aU au.1) (fun _=>hx6)) ?_;refine oA rfl fun b7=>?_;refine oa ?_;refine oS b7 (sF x5) ?_;refine on ?_;refine bF ?_;refine sr ?_;refine oe (aD 0) ?_;refine oe (aJ (b:=b7)) ?_;obtain⟨y8,sW,hM⟩:=bind_some hM;refine cv (fun hs=>ag8 _ _ x5.Name y8 sW (bC hs)) ?_;refine oe fF ?_;refine aP ?_;refine cc rfl hM (fun uh hM=>?_) (fun uh hM=>?_)
  · refine bD ?_;exact aW (bN hM)
  refine sr ?_;refine oe (aD 1) ?_;refine oe (aJ (b:=b2)) ?_;refine om ?_;obtain⟨JF,hl12,hM⟩:=bind_some hM;refine bn (NK (r:=au.1) (xs:=p0.aU) (ol:=none) (oh:=some (.i64,(gq:Int))) (Sk.dW (α:=List bA) (r:=au.1) (x:=p0.aU) hA) hl12 (fun qW=>?_));refine oe Jg ?_;obtain⟨dN,rJ,hM⟩:=bind_some hM;refine cv (fun hs=>aph _ _ JF qW b7 x5 dN rJ (bC hs) (kM hs) (uE hA hs)) ?_;refine aP ?_;refine cc rfl hM (fun hc16 hM=>?_) (fun hc16 hM=>?_)
  · refine bD ?_;exact aW (bN hM)
  refine sr ?_;refine oe (bX (b:=b7)) ?_;obtain⟨yZ,PX,hM⟩:=bind_some hM;refine cv (fun hs=>acU _ _ x5 yZ PX (bC hs)) ?_;refine oe fF ?_;refine aP ?_;refine cc rfl hM (fun hc19 hM=>?_) (fun hc19 hM=>?_)
  · refine bD ?_;exact aW (bN hM)
  refine aX (bZ _ _ ?_);clear bZ;refine aZ ?_;refine oe (dH (hr:=fun _=>by unfold d9;omega)) ?_;refine om ?_;refine bf (hL1 hM sS rI)
 refine dL (hK2 _ _ ?_);clear hK2;dsimp only[ae5] at hM;refine bD ?_;exact aW (bN hM)
def ae4:Unit→Option Int:=fun _=>
 some 0
def Vu(p0:Plan)(l0:Layout)(aY:Nat→Option Int):Nat→Option Int:=fun tK=>
 if decide ((tK:Int)<(p0.Routes.length:Int)) then
  ((idx p0.Routes (tK:Int)).bind fun x5=>
  (Nv l0 x5).bind fun y8=>
  if decide (y8≠0) then
   (some y8)
  else
   (aY (tK+1)))
 else
  (ae4 ())
def MW(l0:Layout)(p0:Plan):Option Int:=
 iter (Vu p0 l0) FUEL 0
theorem anE(S:bB)(w:World)(l0:Layout)(aC:ak.R Layout)(p0:Plan)(au:ak.R Plan)(y:Int)(hM:MW l0 p0=some y)(hS:sB S w)(fG:ak.ok S w aC l0)(gI:ak.ok S w au p0):
   Calls Tryz.prog 34 #[.agg (lC l0 aC),.agg (mY p0 au)] w (cu w (vI y)):=by
 refine bP (args:=[_,_]) Tryz.func34 rfl ((pre_nil hS).start |>.lS fG|>.oC gI) rfl ?_;unfold MW at hM;refine sr ?_;refine oB (dP l0 aC) fun b1=>?_;refine oB (gZ p0 au) fun b2=>?_
 refine aP ?_;refine aG fun K2 hK2=>?_;refine sr ?_;refine oe (aD 2) ?_;refine oe (aJ (b:=b2)) ?_;refine iO (fun w hm=>Kn.len (kG p0.Routes au.2.1) hm) fun hl3=>?_;refine oe bJ ?_;refine om ?_;refine on ?_;refine bF ?_;refine lq hM (fun tK=>[(2,eP b1),(9,eS au.2.1 p0.Routes),(10,eI (p0.Routes.length:Int)),(11,eI (tK:Int))]) (fun tK=>[iL l0.aM aC.1,iL l0.aV aC.2.1,iL l0.Sections aC.2.2.1,iL l0.Links aC.2.2.2,own b1 26 (dP l0 aC),iL p0.Routes au.2.1]) sS rI ?_;clear hM;rintro aY tK hM gu hL1;dsimp only[Vu] at hM ⊢;refine sr ?_;refine oe cO ?_;refine on ?_;refine aG fun K5 bS=>?_;refine cc rfl hM (fun hc4 hM=>?_) (fun hc4 hM=>?_)
 ·have EL:=of_decide_eq_true hc4;refine aX (bS _ _ ?_);clear bS;refine aG fun K6 bZ=>?_;refine bF ?_;refine sr ?_;obtain⟨x5,hx6,hM⟩:=bind_some hM;refine oe (bI (xs:=p0.Routes) 2 (kG p0.Routes au.2.1) (iS hx6)) ?_;refine oe (fO (m:=2) (i:=(tK:Int)) (xs:=p0.Routes) (y:=x5) (l:=(nU x5 (au.2.1.es (tK:Int).toNat))) 0 (kG p0.Routes au.2.1) (fun _=>hx6)) ?_;refine oA rfl fun b7=>?_;refine oS b7 (nU x5 (au.2.1.es (tK:Int).toNat)) ?_;refine on ?_;refine sr ?_;refine oe (bX (b:=b1)) ?_;refine oe (bX (b:=b7)) ?_;obtain⟨y8,sW,hM⟩:=bind_some hM;refine cv (fun hs=>afZ _ _ l0 aC x5 (au.2.1.es (tK:Int).toNat) y8 sW (bC hs) ⟨(kM hs),(kM hs),(kM hs),(kM hs)⟩ (Kn.lend ((Sk.elem (Sk.dW (α:=List aQ) (r:=au.2.1) (x:=p0.Routes) hA) hx6)).kn hs)) ?_;refine aP ?_;refine aO ?_;refine oe iy ?_;refine on ?_
  refine cc rfl hM (fun uh hM=>?_) (fun uh hM=>?_)
  · refine aO ?_;refine aP ?_;exact aW (bN hM)
  refine aX (bZ _ _ ?_);clear bZ;refine aZ ?_;refine oe (dH (hr:=fun _=>by unfold d9;omega)) ?_;refine om ?_;refine bf (hL1 hM sS rI)
 refine dL (hK2 _ _ ?_);clear hK2;dsimp only[ae4] at hM;refine bD ?_;exact aW (bN hM)
def Cr(p0:Plan)(x4:dD)(dR:Line)(l0:Layout)(k0:Int):Bool→Option Int:=fun Tw=>
 if Tw then
  (some 4)
 else
  ((idx p0.Routes x4.aQ).bind fun x8=>
  (idx p0.aU dR.bA).bind fun x10=>
  (OE l0 x8 x10).bind fun ru=>
  if decide (ru≠0) then
   (some ru)
  else
   (bG (!(decide (0<k0))||bW (k0-1))<|
   (fV (decide (0<k0)) default (idx dR.bL (k0-1))).bind fun q8=>
   (fV (decide (0<k0)) default (J3 p0 x4)).bind fun jV=>
   (fV (decide (0<k0)) default (J4 p0 q8)).bind fun y20=>
   if (decide (0<k0)&&decide (jV≠y20)) then
    (some 11)
   else
    (some 0)))
def MV(l0:Layout)(p0:Plan)(dR:Line)(k0:Int):Option Int:=
 (idx dR.bL k0).bind fun x4=>
 if decide (x4.aQ<0) then
  (Cr p0 x4 dR l0 k0 (decide (x4.aQ<0)))
 else
  (if decide ((p0.Routes.length:Int)≤x4.aQ) then
   (Cr p0 x4 dR l0 k0 (decide ((p0.Routes.length:Int)≤x4.aQ)))
  else
   (if decide (x4.Extra<0) then
    (Cr p0 x4 dR l0 k0 (decide (x4.Extra<0)))
   else
    (if decide (p0.bR≤x4.Extra) then
     (Cr p0 x4 dR l0 k0 (decide (p0.bR≤x4.Extra)))
    else
     ((JV p0 x4.Min x4.Max).bind fun y27=>
     if (!y27) then
      (Cr p0 x4 dR l0 k0 (!y27))
     else
      (bG (bW ((dR.bL.length:Int)-1))<|
      Cr p0 x4 dR l0 k0 (decide (k0=((dR.bL.length:Int)-1))&&(decide (x4.Min≠0)||decide (x4.Max≠0))))))))
theorem anD(S:bB)(w:World)(l0:Layout)(aC:ak.R Layout)(p0:Plan)(au:ak.R Plan)(dR:Line)(mh:ak.R Line)(k0:Int)(y:Int)(hM:MV l0 p0 dR k0=some y)(hS:sB S w)(fG:ak.ok S w aC l0)(gI:ak.ok S w au p0)(YR:ak.ok S w mh dR):
   Calls Tryz.prog 86 #[.agg (lC l0 aC),.agg (mY p0 au),.agg (IY dR mh),vI k0] w (cu w (vI y)):=by
 refine bP (args:=[_,_,_,_]) Tryz.func86 rfl ((pre_nil hS).start |>.lS fG|>.oC gI|>.bU (α:=List dD) (r:=mh) (x:=dR.bL) YR) rfl ?_;unfold MV at hM;refine sr ?_;refine oB (dP l0 aC) fun b1=>?_;refine oB (gZ p0 au) fun b2=>?_
 refine oB (mV dR mh) fun b3=>?_;refine aP ?_;refine sr ?_;refine oe (aD 3) ?_;refine oe (aJ (b:=b3)) ?_;refine om ?_;obtain⟨x4,hx5,hM⟩:=bind_some hM;refine oe (bI (xs:=dR.bL) 4 (kG dR.bL mh) (iS hx5)) ?_;refine oe (fO (m:=4) (i:=k0) (xs:=dR.bL) (y:=x4) (l:=(wG x4)) 0 (kG dR.bL mh) (fun _=>hx5)) ?_;refine oA rfl fun b6=>?_;refine oS b6 (wG x4) ?_;refine on ?_;refine aG fun K3 hK3=>?_;refine bF ?_;refine jm y (k:=Cr p0 x4 dR l0 k0) (fun Tw=>[(3,eI k0),(4,eP b1),(5,eP b2),(6,eP b3),(9,eP b6),(16,.v (.bool Tw))]) (fun Tw=>[iL l0.aM aC.1,iL l0.aV aC.2.1,iL l0.Sections aC.2.2.1,iL l0.Links aC.2.2.2,own b1 26 (dP l0 aC),iL p0.aU au.1,iL p0.Routes au.2.1,iL p0.Lines au.2.2.1,iL p0.Changes au.2.2.2.1,iL p0.Turns au.2.2.2.2.1,iL p0.bq au.2.2.2.2.2.1,iL p0.bg au.2.2.2.2.2.2,own b2 35 (gZ p0 au),iL dR.bL mh,own b3 56 (mV dR mh),own b6 58 (wG x4)]) ?_ ?_
 ·intro wX fB;refine sr ?_;refine oe (aD 0) ?_;refine oe (aJ (b:=b6)) ?_;refine oe cO ?_;refine aP ?_;refine cc rfl hM (fun Pw hM=>?_) (fun Pw hM=>?_)
  · refine aX (fB hM sS rI)
  refine sr ?_;refine oe (aD 0) ?_;refine oe (aJ (b:=b6)) ?_;refine oe (aD 2) ?_;refine oe (aJ (b:=b2)) ?_;refine oe bJ ?_;refine oe jf ?_;refine aP ?_;refine cc rfl hM (fun hc24 hM=>?_) (fun hc24 hM=>?_)
  · refine aX (fB hM sS rI)
  refine sr ?_;refine oe (aD 1) ?_;refine oe (aJ (b:=b6)) ?_;refine oe cO ?_;refine aP ?_;refine cc rfl hM (fun hc25 hM=>?_) (fun hc25 hM=>?_)
  · refine aX (fB hM sS rI)
  refine sr ?_;refine oe (aD 1) ?_;refine oe (aJ (b:=b6)) ?_;refine oe (aD 0) ?_;refine oe (aJ (b:=b2)) ?_;refine oe jf ?_;refine aP ?_;refine cc rfl hM (fun Y7 hM=>?_) (fun Y7 hM=>?_)
  · refine aX (fB hM sS rI)
  refine sr ?_;refine oe (bX (b:=b2)) ?_;refine oe (aD 2) ?_;refine oe (aJ (b:=b6)) ?_;refine oe (aD 3) ?_;refine oe (aJ (b:=b6)) ?_;obtain⟨y27,hy28,hM⟩:=bind_some hM;refine cv (fun hs=>aaA _ _ p0 au x4.Min x4.Max y27 hy28 (bC hs) ⟨(kM hs),(kM hs),(kM hs),(kM hs),(kM hs),(kM hs),(kM hs)⟩) ?_;refine oe fF ?_;refine aP ?_;refine cc rfl hM (fun hc29 hM=>?_) (fun hc29 hM=>?_)
  · refine aX (fB hM sS rI)
  refine aZ ?_;refine om ?_;refine oe (aD 3) ?_;refine oe (aJ (b:=b3)) ?_;refine oe bJ ?_;refine oN hM fun hM=>?_;refine oe eu ?_;refine om ?_;refine av rfl (aD 2) ?_;refine av rfl (aJ (b:=b6)) ?_;refine av rfl iy ?_;refine av rfl aH ?_;refine av rfl (aD 3) ?_;refine av rfl (aJ (b:=b6)) ?_;refine av rfl iy ?_;refine av rfl eT ?_;refine oe dI ?_;refine oa ?_;refine bf (fB hM sS rI)
 clear hM;rintro Tw hM;dsimp only[Cr] at hM ⊢;refine cc rfl hM (fun jR hM=>?_) (fun jR hM=>?_)
 ·refine bD ?_;exact aW (bN hM)
 refine aX (hK3 _ _ ?_);clear hK3;refine aG fun K5 bS=>?_;refine aG fun K6 bZ=>?_;refine iD _ (List.Sublist.refl _) ?_;refine ay 0 rfl (bX (b:=b1)) ?_;refine ay 1 rfl (aD 2) ?_;refine ay 2 rfl (aJ (b:=b2)) ?_;refine ay 3 rfl (aD 0) ?_;refine ay 4 rfl (aJ (b:=b6)) ?_;obtain⟨x8,Lv,hM⟩:=bind_some hM;refine ay 5 rfl (bI (xs:=p0.Routes) 2 (kG p0.Routes au.2.1) (iS Lv)) ?_;refine ay 6 rfl (fO (m:=2) (i:=x4.aQ) (xs:=p0.Routes) (y:=x8) (l:=(nU x8 (au.2.1.es x4.aQ.toNat))) 0 (kG p0.Routes au.2.1) (fun _=>Lv)) ?_;refine ay 7 rfl (aD 1) ?_;refine ay 8 rfl (aJ (b:=b2)) ?_;refine ay 9 rfl (aD 1) ?_;refine ay 10 rfl (aJ (b:=b3)) ?_;obtain⟨x10,yE,hM⟩:=bind_some hM;refine ay 11 rfl (bI (xs:=p0.aU) 5 (kG p0.aU au.1) (iS yE)) ?_;refine ay 12 rfl (fO (m:=5) (i:=dR.bA) (xs:=p0.aU) (y:=x10) (l:=(sF x10)) 0 (kG p0.aU au.1) (fun _=>yE)) ?_;obtain⟨ru,EO,hM⟩:=bind_some hM;refine eD 13 rfl (sV (fun hs=>ahU _ _ l0 aC x8 (au.2.1.es x4.aQ.toNat) x10 ru EO (bC hs) ⟨(kM hs),(kM hs),(kM hs),(kM hs)⟩ (Kn.lend ((Sk.elem (Sk.dW (α:=List aQ) (r:=au.2.1) (x:=p0.Routes) hA) Lv)).kn hs)) ⟨rI,?_⟩)
 refine ay 14 rfl dx ?_;refine dY (bZ _ _ ?_);clear bZ;refine aO ?_;refine oe iy ?_;refine on ?_;refine cc rfl hM (fun zl hM=>?_) (fun zl hM=>?_)
 ·refine aO ?_;refine aP ?_;exact aW (bN hM)
 refine aX (bS _ _ ?_);clear bS;refine aG fun K9 dU=>?_;refine aG fun uN gX=>?_;refine iD _ (List.Sublist.refl _) ?_;refine ay 0 rfl aH ?_;refine ay 1 rfl iw ?_;refine ay 2 rfl aH ?_;refine gH 3 rfl rfl (bX (b:=b2)) ?_;refine gH 4 rfl rfl (bX (b:=b6)) ?_;refine gH 6 rfl rfl (bX (b:=b2)) ?_;refine gH 7 rfl rfl (aD 3) ?_;refine gH 8 rfl rfl (aJ (b:=b3)) ?_;refine gH 9 rfl rfl aH ?_;obtain⟨YJ,hM⟩:=dw hM;refine gH 10 rfl rfl (xk (hr:=fun hg=>fH (Jl YJ hg))) ?_;obtain⟨q8,Jq,hM⟩:=bind_some hM;refine gH 11 rfl rfl (bI (xs:=dR.bL) 4 (kG dR.bL mh) (fun hg=>let h:=nu (fu Jq hg);⟨h.1,h.2.1⟩)) ?_;refine gH 12 rfl rfl (fO (m:=4) (i:=(k0-1)) (xs:=dR.bL) (y:=q8) (l:=(wG q8)) 0 (kG dR.bL mh) (fun hg=>fu Jq hg)) ?_;obtain⟨jV,xD,hM⟩:=bind_some hM;refine Yb 5 rfl rfl (fun hg w hm=>let ⟨S,hs⟩:=hm;aaJ _ w p0 au x4 jV (fu xD hg) (bC hs) ⟨(kM hs),(kM hs),(kM hs),(kM hs),(kM hs),(kM hs),(kM hs)⟩) ?_;obtain⟨y20,Jt,hM⟩:=bind_some hM;refine Yb 13 rfl rfl (fun hg w hm=>let ⟨S,hs⟩:=hm;aaK _ w p0 au q8 y20 (fu Jt hg) (bC hs) ⟨(kM hs),(kM hs),(kM hs),(kM hs),(kM hs),(kM hs),(kM hs)⟩) ?_
 refine gH 14 rfl rfl iy ?_;refine ay 15 rfl dI ?_;refine dY (gX _ _ ?_);clear gX;refine cc rfl hM (fun hc22 hM=>?_) (fun hc22 hM=>?_)
 ·refine bD ?_;exact aW (bN hM)
 refine aX (dU _ _ ?_);clear dU;refine bD ?_;exact aW (bN hM)
def ae3(aY:Nat→Option Int)(iI:Nat):Unit→Option Int:=fun _=>
 aY (iI+1)
def Rt(x5:Line)(l0:Layout)(p0:Plan)(aY:Nat→Option Int)(iI:Nat)(gN:Nat→Option Int):Nat→Option Int:=fun IG=>
 if decide ((IG:Int)<(x5.bL.length:Int)) then
  ((MV l0 p0 x5 (IG:Int)).bind fun y21=>
  if decide (y21≠0) then
   (some y21)
  else
   (gN (IG+1)))
 else
  (ae3 aY iI ())
def JW(x5:Line)(l0:Layout)(p0:Plan)(aY:Nat→Option Int)(iI:Nat):Bool→Option Int:=fun TA=>
 if TA then
  (some 4)
 else
  (if decide ((x5.bL.length:Int)=0) then
   (some 1)
  else
   (iter (Rt x5 l0 p0 aY iI) FUEL 0))
def ae2:Unit→Option Int:=fun _=>
 some 0
def Vt(p0:Plan)(l0:Layout)(aY:Nat→Option Int):Nat→Option Int:=fun iI=>
 if decide ((iI:Int)<(p0.Lines.length:Int)) then
  ((idx p0.Lines (iI:Int)).bind fun x5=>
  (NY x5.Name).bind fun y8=>
  if (!y8) then
   (some 3)
  else
   ((sub p0.Lines 0 (iI:Int)).bind fun JF=>
   (SY JF x5).bind fun dN=>
   if dN then
    (some 5)
   else
    (if decide (x5.bA<0) then
     (JW x5 l0 p0 aY iI (decide (x5.bA<0)))
    else
     (if decide ((p0.aU.length:Int)≤x5.bA) then
      (JW x5 l0 p0 aY iI (decide ((p0.aU.length:Int)≤x5.bA)))
     else
      ((RF x5.Weight).bind fun qL=>
      JW x5 l0 p0 aY iI (!qL))))))
 else
  (ae2 ())
def MU(l0:Layout)(p0:Plan):Option Int:=
 iter (Vt p0 l0) FUEL 0
theorem anC(S:bB)(w:World)(l0:Layout)(aC:ak.R Layout)(p0:Plan)(au:ak.R Plan)(y:Int)(hM:MU l0 p0=some y)(hS:sB S w)(fG:ak.ok S w aC l0)(gI:ak.ok S w au p0):
   Calls Tryz.prog 35 #[.agg (lC l0 aC),.agg (mY p0 au)] w (cu w (vI y)):=by
 refine bP (args:=[_,_]) Tryz.func35 rfl ((pre_nil hS).start |>.lS fG|>.oC gI) rfl ?_;unfold MU at hM;refine sr ?_;refine oB (dP l0 aC) fun b1=>?_;refine oB (gZ p0 au) fun b2=>?_
 refine aP ?_;refine aG fun K2 hK2=>?_;refine sr ?_;refine oe (aD 3) ?_;refine oe (aJ (b:=b2)) ?_;refine iO (fun w hm=>Kn.len (kG p0.Lines au.2.2.1) hm) fun hl3=>?_;refine oe bJ ?_;refine om ?_;refine on ?_;refine bF ?_;refine lq hM (fun iI=>[(2,eP b1),(3,eP b2),(10,eS au.2.2.1 p0.Lines),(11,eI (p0.Lines.length:Int)),(12,eI (iI:Int))]) (fun iI=>[iL l0.aM aC.1,iL l0.aV aC.2.1,iL l0.Sections aC.2.2.1,iL l0.Links aC.2.2.2,own b1 26 (dP l0 aC),iL p0.aU au.1,iL p0.Routes au.2.1,iL p0.Lines au.2.2.1,iL p0.Changes au.2.2.2.1,iL p0.Turns au.2.2.2.2.1,iL p0.bq au.2.2.2.2.2.1,iL p0.bg au.2.2.2.2.2.2,own b2 35 (gZ p0 au)]) sS rI ?_
 clear hM;rintro aY iI hM gu hL1;dsimp only[Vt] at hM ⊢;refine sr ?_;refine oe cO ?_;refine on ?_;refine aG fun K5 bS=>?_;refine cc rfl hM (fun hc4 hM=>?_) (fun hc4 hM=>?_)
 ·have EL:=of_decide_eq_true hc4;refine aX (bS _ _ ?_);clear bS;refine aG fun K6 bZ=>?_;refine bF ?_;refine aO ?_;obtain⟨x5,hx6,hM⟩:=bind_some hM;refine oe (bI (xs:=p0.Lines) 4 (kG p0.Lines au.2.2.1) (iS hx6)) ?_;refine oe (fO (m:=4) (i:=(iI:Int)) (xs:=p0.Lines) (y:=x5) (l:=(mV x5 (au.2.2.1.es (iI:Int).toNat))) 0 (kG p0.Lines au.2.2.1) (fun _=>hx6)) ?_;refine oA rfl fun b7=>?_;refine oa ?_;refine oS b7 (mV x5 (au.2.2.1.es (iI:Int).toNat)) ?_;refine on ?_;refine aG fun K8 eZ=>?_;refine bF ?_;refine sr ?_;refine oe (aD 0) ?_;refine oe (aJ (b:=b7)) ?_;obtain⟨y8,sW,hM⟩:=bind_some hM;refine cv (fun hs=>ag8 _ _ x5.Name y8 sW (bC hs)) ?_;refine oe fF ?_;refine aP ?_;refine cc rfl hM (fun uh hM=>?_) (fun uh hM=>?_)
  · refine bD ?_;exact aW (bN hM)
  refine sr ?_;refine oe (aD 3) ?_;refine oe (aJ (b:=b2)) ?_;refine om ?_;obtain⟨JF,hl12,hM⟩:=bind_some hM;refine bn (NK (r:=au.2.2.1) (xs:=p0.Lines) (ol:=none) (oh:=some (.i64,(iI:Int))) (Sk.dW (α:=List Line) (r:=au.2.2.1) (x:=p0.Lines) hA) hl12 (fun qW=>?_));refine oe Jg ?_;obtain⟨dN,rJ,hM⟩:=bind_some hM;refine cv (fun hs=>apg _ _ JF qW b7 x5 (au.2.2.1.es (iI:Int).toNat) dN rJ (bC hs) (kM hs) (uE hA hs) (Kn.lend ((Sk.elem (Sk.dW (α:=List Line) (r:=au.2.2.1) (x:=p0.Lines) hA) hx6)).kn hs)) ?_;refine aP ?_;refine cc rfl hM (fun hc16 hM=>?_) (fun hc16 hM=>?_)
  · refine bD ?_;exact aW (bN hM)
  refine jm y (k:=JW x5 l0 p0 aY iI) (fun TA=>[(2,eP b1),(3,eP b2),(6,eP b7),(10,eS au.2.2.1 p0.Lines),(11,eI (p0.Lines.length:Int)),(12,eI (iI:Int)),(29,.v (.bool TA))]) (fun TA=>[iL l0.aM aC.1,iL l0.aV aC.2.1,iL l0.Sections aC.2.2.1,iL l0.Links aC.2.2.2,own b1 26 (dP l0 aC),iL p0.aU au.1,iL p0.Routes au.2.1,iL p0.Lines au.2.2.1,iL p0.Changes au.2.2.2.1,iL p0.Turns au.2.2.2.2.1,iL p0.bq au.2.2.2.2.2.1,iL p0.bg au.2.2.2.2.2.2,own b2 35 (gZ p0 au),own b7 56 (mV x5 (au.2.2.1.es (iI:Int).toNat))]) ?_ ?_
  · intro Og hJ3;refine sr ?_;refine oe (aD 1) ?_;refine oe (aJ (b:=b7)) ?_;refine oe cO ?_;refine aP ?_;refine cc rfl hM (fun hc24 hM=>?_) (fun hc24 hM=>?_)
    ·refine aX (hJ3 hM sS rI)
    refine sr ?_;refine oe (aD 1) ?_;refine oe (aJ (b:=b7)) ?_;refine oe (aD 1) ?_;refine oe (aJ (b:=b2)) ?_;refine oe bJ ?_;refine oe jf ?_;refine aP ?_;refine cc rfl hM (fun hc25 hM=>?_) (fun hc25 hM=>?_)
    ·refine aX (hJ3 hM sS rI)
    refine aZ ?_;refine oe (aD 2) ?_;refine oe (aJ (b:=b7)) ?_;obtain⟨qL,hy27,hM⟩:=bind_some hM;refine cv (fun hs=>ae9 _ _ x5.Weight qL hy27 (bC hs)) ?_;refine oe fF ?_;refine oa ?_;refine bf (hJ3 hM sS rI)
  clear hM;rintro TA hM;dsimp only[JW] at hM ⊢;refine cc rfl hM (fun hc17 hM=>?_) (fun hc17 hM=>?_)
  · refine bD ?_;exact aW (bN hM)
  refine sr ?_;refine oe (aD 3) ?_;refine oe (aJ (b:=b7)) ?_;refine oe bJ ?_;refine oe eu ?_;refine aP ?_;refine cc rfl hM (fun hc18 hM=>?_) (fun hc18 hM=>?_)
  · refine bD ?_;exact aW (bN hM)
  refine aX (eZ _ _ ?_);clear eZ;refine sr ?_;refine oe (aD 3) ?_;refine oe (aJ (b:=b7)) ?_;refine iO (fun w hm=>Kn.len ((Sk.elem (Sk.dW (α:=List Line) (r:=au.2.2.1) (x:=p0.Lines) hA) hx6)).kn hm) fun aqC=>?_;refine oe bJ ?_;refine om ?_;refine on ?_;refine bF ?_;refine lq hM (fun IG=>[(2,eP b1),(3,eP b2),(6,eP b7),(10,eS au.2.2.1 p0.Lines),(11,eI (p0.Lines.length:Int)),(12,eI (iI:Int)),(50,eI (x5.bL.length:Int)),(51,eI (IG:Int))]) (fun IG=>[iL l0.aM aC.1,iL l0.aV aC.2.1,iL l0.Sections aC.2.2.1,iL l0.Links aC.2.2.2,own b1 26 (dP l0 aC),iL p0.aU au.1,iL p0.Routes au.2.1,iL p0.Lines au.2.2.1,iL p0.Changes au.2.2.2.1,iL p0.Turns au.2.2.2.2.1,iL p0.bq au.2.2.2.2.2.1,iL p0.bg au.2.2.2.2.2.2,own b2 35 (gZ p0 au),own b7 56 (mV x5 (au.2.2.1.es (iI:Int).toNat))]) sS rI ?_
  clear hM;rintro gN IG hM BD hL2;dsimp only[Rt] at hM ⊢;refine sr ?_;refine oe cO ?_;refine on ?_;refine aG fun F7 oM=>?_;refine cc rfl hM (fun Dr hM=>?_) (fun Dr hM=>?_)
  · have aqp:=of_decide_eq_true Dr;refine aX (oM _ _ ?_);clear oM;refine aG fun KJ rZ=>?_;refine bF ?_;refine aO ?_;refine aP ?_;refine sr ?_;refine oe (bX (b:=b1)) ?_;refine oe (bX (b:=b2)) ?_;refine oe (bX (b:=b7)) ?_;refine om ?_;obtain⟨y21,PY,hM⟩:=bind_some hM;refine cv (fun hs=>anD _ _ l0 aC p0 au x5 (au.2.2.1.es (iI:Int).toNat) (IG:Int) y21 PY (bC hs) ⟨(kM hs),(kM hs),(kM hs),(kM hs)⟩ ⟨(kM hs),(kM hs),(kM hs),(kM hs),(kM hs),(kM hs),(kM hs)⟩ (Kn.lend ((Sk.elem (Sk.dW (α:=List Line) (r:=au.2.2.1) (x:=p0.Lines) hA) hx6)).kn hs)) ?_;refine aP ?_;refine aO ?_;refine oe iy ?_;refine on ?_;refine cc rfl hM (fun Pw hM=>?_) (fun Pw hM=>?_)
    ·refine aO ?_;refine aP ?_;exact aW (bN hM)
    refine aX (rZ _ _ ?_);clear rZ;refine aZ ?_;refine oe (dH (hr:=fun _=>by unfold d9;omega)) ?_;refine om ?_;refine bf (hL2 hM sS rI)
  refine dL (bZ _ _ ?_);clear bZ;dsimp only[ae3] at hM;refine aZ ?_;refine oe (dH (hr:=fun _=>by unfold d9;omega)) ?_;refine om ?_;refine bf (hL1 hM sS rI)
 refine dL (hK2 _ _ ?_);clear hK2;dsimp only[ae2] at hM;refine bD ?_;exact aW (bN hM)
def ae0:Unit→Option Int:=fun _=>
 some 0
def Vr(p0:Plan)(l0:Layout)(aY:Nat→Option Int):Nat→Option Int:=fun iI=>
 if decide ((iI:Int)<(p0.Changes.length:Int)) then
  ((idx p0.Changes (iI:Int)).bind fun x5=>
  (G8 p0 x5.jk x5.kP).bind fun y8=>
  (fV (!(!y8)) default (G8 p0 x5.kg x5.mX)).bind fun jC=>
  (fV (!(((!y8)||(!jC))||decide (x5.jk=x5.kg))) default (JV p0 x5.Min x5.Max)).bind fun ru=>
  (fV (!((((!y8)||(!jC))||decide (x5.jk=x5.kg))||(!ru))) default (RF x5.Weight)).bind fun dN=>
  if (((((!y8)||(!jC))||decide (x5.jk=x5.kg))||(!ru))||(!dN)) then
   (some 4)
  else
   ((idx p0.Lines x5.jk).bind fun ji=>
   (idx ji.bL x5.kP).bind fun TV=>
   (J4 p0 TV).bind fun y21=>
   (idx l0.Sections y21).bind fun x23=>
   (idx p0.Lines x5.kg).bind fun x25=>
   (idx x25.bL x5.mX).bind fun x27=>
   (J3 p0 x27).bind fun y29=>
   (idx l0.Sections y29).bind fun x31=>
   if (decide (x23.pQ=(-1))||decide (x23.pQ≠x31.pQ)) then
    (some 11)
   else
    (aY (iI+1))))
 else
  (ae0 ())
def MQ(l0:Layout)(p0:Plan):Option Int:=
 iter (Vr p0 l0) FUEL 0
theorem anz(S:bB)(w:World)(l0:Layout)(aC:ak.R Layout)(p0:Plan)(au:ak.R Plan)(y:Int)(hM:MQ l0 p0=some y)(hS:sB S w)(fG:ak.ok S w aC l0)(gI:ak.ok S w au p0):
   Calls Tryz.prog 36 #[.agg (lC l0 aC),.agg (mY p0 au)] w (cu w (vI y)):=by
 refine bP (args:=[_,_]) Tryz.func36 rfl ((pre_nil hS).start |>.lS fG|>.oC gI) rfl ?_;unfold MQ at hM;refine sr ?_;refine oB (dP l0 aC) fun b1=>?_;refine oB (gZ p0 au) fun b2=>?_
 refine aP ?_;refine aG fun K2 hK2=>?_;refine sr ?_;refine oe (aD 4) ?_;refine oe (aJ (b:=b2)) ?_;refine iO (fun w hm=>Kn.len (kG p0.Changes au.2.2.2.1) hm) fun hl3=>?_;refine oe bJ ?_;refine om ?_;refine on ?_;refine bF ?_;refine lq hM (fun iI=>[(2,eP b1),(3,eP b2),(10,eS au.2.2.2.1 p0.Changes),(11,eI (p0.Changes.length:Int)),(12,eI (iI:Int))]) (fun iI=>[iL l0.aM aC.1,iL l0.aV aC.2.1,iL l0.Sections aC.2.2.1,iL l0.Links aC.2.2.2,own b1 26 (dP l0 aC),iL p0.aU au.1,iL p0.Routes au.2.1,iL p0.Lines au.2.2.1,iL p0.Changes au.2.2.2.1,iL p0.Turns au.2.2.2.2.1,iL p0.bq au.2.2.2.2.2.1,iL p0.bg au.2.2.2.2.2.2,own b2 35 (gZ p0 au)]) sS rI ?_
 clear hM;rintro aY iI hM gu hL1;dsimp only[Vr] at hM ⊢;refine sr ?_;refine oe cO ?_;refine on ?_;refine aG fun K5 bS=>?_;refine cc rfl hM (fun hc4 hM=>?_) (fun hc4 hM=>?_)
 ·have EL:=of_decide_eq_true hc4;refine aX (bS _ _ ?_);clear bS;refine aG fun K6 bZ=>?_;refine bF ?_;refine sr ?_;obtain⟨x5,hx6,hM⟩:=bind_some hM;refine oe (bI (xs:=p0.Changes) 7 (kG p0.Changes au.2.2.2.1) (iS hx6)) ?_;refine oe (fO (m:=7) (i:=(iI:Int)) (xs:=p0.Changes) (y:=x5) (l:=(JM x5)) 0 (kG p0.Changes au.2.2.2.1) (fun _=>hx6)) ?_;refine oA rfl fun b7=>?_;refine oS b7 (JM x5) ?_;refine on ?_;refine aG fun K8 eZ=>?_;refine sr ?_;refine oe (bX (b:=b2)) ?_;refine oe (aD 0) ?_;refine oe (aJ (b:=b7)) ?_;refine oe (aD 1) ?_;refine oe (aJ (b:=b7)) ?_;obtain⟨y8,sW,hM⟩:=bind_some hM;refine cv (fun hs=>Vz _ _ p0 au x5.jk x5.kP y8 sW (bC hs) ⟨(kM hs),(kM hs),(kM hs),(kM hs),(kM hs),(kM hs),(kM hs)⟩) ?_;refine oe fF ?_;refine om ?_;refine av rfl (bX (b:=b2)) ?_
  refine av rfl (aD 2) ?_;refine av rfl (aJ (b:=b7)) ?_;refine av rfl (aD 3) ?_;refine av rfl (aJ (b:=b7)) ?_;obtain⟨jC,xB,hM⟩:=bind_some hM;refine cg rfl (fun hg hs=>Vz _ _ p0 au x5.kg x5.mX jC (fu xB hg) (bC hs) ⟨(kM hs),(kM hs),(kM hs),(kM hs),(kM hs),(kM hs),(kM hs)⟩) ?_;refine av rfl fF ?_;refine oe eT ?_;refine om ?_;refine av rfl (aD 0) ?_;refine av rfl (aJ (b:=b7)) ?_;refine av rfl (aD 2) ?_;refine av rfl (aJ (b:=b7)) ?_;refine av rfl eu ?_;refine oe eT ?_;refine om ?_;refine av rfl (bX (b:=b2)) ?_;refine av rfl (aD 4) ?_;refine av rfl (aJ (b:=b7)) ?_;refine av rfl (aD 5) ?_;refine av rfl (aJ (b:=b7)) ?_;obtain⟨ru,EO,hM⟩:=bind_some hM;refine cg rfl (fun hg hs=>aaA _ _ p0 au x5.Min x5.Max ru (fu EO hg) (bC hs) ⟨(kM hs),(kM hs),(kM hs),(kM hs),(kM hs),(kM hs),(kM hs)⟩) ?_;refine av rfl fF ?_;refine oe eT ?_;refine om ?_;refine av rfl (aD 6) ?_;refine av rfl (aJ (b:=b7)) ?_;obtain⟨dN,rJ,hM⟩:=bind_some hM;refine cg rfl (fun hg hs=>ae9 _ _ x5.Weight dN (fu rJ hg) (bC hs)) ?_;refine av rfl fF ?_
  refine oe eT ?_;refine on ?_;refine cc rfl hM (fun hc16 hM=>?_) (fun hc16 hM=>?_)
  · refine bD ?_;exact aW (bN hM)
  refine aX (eZ _ _ ?_);clear eZ;refine aG fun o7 eH=>?_;refine iD _ (List.Sublist.refl _) ?_;refine ay 0 rfl (aD 2) ?_;refine ay 1 rfl (aJ (b:=b1)) ?_;refine ay 2 rfl (bX (b:=b2)) ?_;refine ay 3 rfl (aD 3) ?_;refine ay 4 rfl (aJ (b:=b2)) ?_;refine ay 5 rfl (aD 0) ?_;refine ay 6 rfl (aJ (b:=b7)) ?_;obtain⟨ji,vY,hM⟩:=bind_some hM;refine ay 7 rfl (bI (xs:=p0.Lines) 4 (kG p0.Lines au.2.2.1) (iS vY)) ?_;refine ay 8 rfl (aD 3) ?_;refine ay 9 rfl (dh (i:=x5.jk) (xs:=p0.Lines) (y:=ji) 3 (kG p0.Lines au.2.2.1) (fun _=>vY)) ?_;refine ay 10 rfl (aD 1) ?_;refine ay 11 rfl (aJ (b:=b7)) ?_;obtain⟨TV,adJ,hM⟩:=bind_some hM;refine ay 12 rfl (bI (xs:=ji.bL) 4 ((Sk.elem (Sk.dW (α:=List Line) (r:=au.2.2.1) (x:=p0.Lines) hA) vY)).kn (iS adJ)) ?_;refine ay 13 rfl (fO (m:=4) (i:=x5.kP) (xs:=ji.bL) (y:=TV) (l:=(wG TV)) 0 ((Sk.elem (Sk.dW (α:=List Line) (r:=au.2.2.1) (x:=p0.Lines) hA) vY)).kn (fun _=>adJ)) ?_;obtain⟨y21,PY,hM⟩:=bind_some hM;refine eD 14 rfl (sV (fun hs=>aaK _ _ p0 au TV y21 PY (bC hs) ⟨(kM hs),(kM hs),(kM hs),(kM hs),(kM hs),(kM hs),(kM hs)⟩) ⟨rI,?_⟩)
  obtain⟨x23,hx24,hM⟩:=bind_some hM;refine ay 15 rfl (bI (xs:=l0.Sections) 5 (kG l0.Sections aC.2.2.1) (iS hx24)) ?_;refine ay 16 rfl (aD 4) ?_;refine ay 17 rfl (dh (i:=y21) (xs:=l0.Sections) (y:=x23) 4 (kG l0.Sections aC.2.2.1) (fun _=>hx24)) ?_;refine ay 18 rfl dx ?_;refine dY (eH _ _ ?_);clear eH;refine aG fun CX lZ=>?_;refine iD _ (List.Sublist.refl _) ?_;refine ay 0 rfl (aD 2) ?_;refine ay 1 rfl (aJ (b:=b1)) ?_;refine ay 2 rfl (bX (b:=b2)) ?_;refine ay 3 rfl (aD 3) ?_;refine ay 4 rfl (aJ (b:=b2)) ?_;refine ay 5 rfl (aD 2) ?_;refine ay 6 rfl (aJ (b:=b7)) ?_;obtain⟨x25,GK,hM⟩:=bind_some hM;refine ay 7 rfl (bI (xs:=p0.Lines) 4 (kG p0.Lines au.2.2.1) (iS GK)) ?_;refine ay 8 rfl (aD 3) ?_;refine ay 9 rfl (dh (i:=x5.kg) (xs:=p0.Lines) (y:=x25) 3 (kG p0.Lines au.2.2.1) (fun _=>GK)) ?_;refine ay 10 rfl (aD 3) ?_;refine ay 11 rfl (aJ (b:=b7)) ?_;obtain⟨x27,hx28,hM⟩:=bind_some hM;refine ay 12 rfl (bI (xs:=x25.bL) 4 ((Sk.elem (Sk.dW (α:=List Line) (r:=au.2.2.1) (x:=p0.Lines) hA) GK)).kn (iS hx28)) ?_;refine ay 13 rfl (fO (m:=4) (i:=x5.mX) (xs:=x25.bL) (y:=x27) (l:=(wG x27)) 0 ((Sk.elem (Sk.dW (α:=List Line) (r:=au.2.2.1) (x:=p0.Lines) hA) GK)).kn (fun _=>hx28)) ?_
  obtain⟨y29,PZ,hM⟩:=bind_some hM;refine eD 14 rfl (sV (fun hs=>aaJ _ _ p0 au x27 y29 PZ (bC hs) ⟨(kM hs),(kM hs),(kM hs),(kM hs),(kM hs),(kM hs),(kM hs)⟩) ⟨rI,?_⟩);obtain⟨x31,hx32,hM⟩:=bind_some hM;refine ay 15 rfl (bI (xs:=l0.Sections) 5 (kG l0.Sections aC.2.2.1) (iS hx32)) ?_;refine ay 16 rfl (aD 4) ?_;refine ay 17 rfl (dh (i:=y29) (xs:=l0.Sections) (y:=x31) 4 (kG l0.Sections aC.2.2.1) (fun _=>hx32)) ?_;refine ay 18 rfl dx ?_;refine dY (lZ _ _ ?_);clear lZ;refine aO ?_;refine oe eu ?_;refine om ?_;refine av rfl aH ?_;refine av rfl aH ?_;refine av rfl iy ?_;refine oe eT ?_;refine on ?_;refine cc rfl hM (fun Px hM=>?_) (fun Px hM=>?_)
  · refine bD ?_;exact aW (bN hM)
  refine aX (bZ _ _ ?_);clear bZ;refine aZ ?_;refine oe (dH (hr:=fun _=>by unfold d9;omega)) ?_;refine om ?_;refine bf (hL1 hM sS rI)
 refine dL (hK2 _ _ ?_);clear hK2;dsimp only[ae0] at hM;refine bD ?_;exact aW (bN hM)
def Vy(p0:Plan)(aY:Nat→Option Int)(iI:Nat):(Str×Int×Int×(List dD)×Str×Int×Int×(List dD))→Option Int:=fun (Uv,Pf,Uw,zA,WZ,TF,W9,Dy)=>
 bG (bW ((zA.length:Int)-1))<|
 (idx zA ((zA.length:Int)-1)).bind fun Ee=>
 (idx Dy 0).bind fun x24=>
 (J4 p0 Ee).bind fun qL=>
 (J3 p0 x24).bind fun y28=>
 if (decide (qL≠y28)||decide (Pf≠TF)) then
  (some 11)
 else
  (aY (iI+1))
def ae7:Unit→Option Int:=fun _=>
 some 0
def Vx(p0:Plan)(aY:Nat→Option Int):Nat→Option Int:=fun iI=>
 if decide ((iI:Int)<(p0.Turns.length:Int)) then
  ((idx p0.Turns (iI:Int)).bind fun x5=>
  (JX p0 x5.From).bind fun y8=>
  (fV (!(!y8)) default (JX p0 x5.To)).bind fun jC=>
  (fV (!((!y8)||(!jC))) default (JV p0 x5.Min x5.Max)).bind fun ru=>
  if (((!y8)||(!jC))||(!ru)) then
   (some 4)
  else
   ((sub p0.Turns 0 (iI:Int)).bind fun Cg=>
   (Ta Cg x5).bind fun jV=>
   if jV then
    (some 5)
   else
    ((idx p0.Lines x5.From).bind fun x31=>
    (idx p0.Lines x5.To).bind fun yc=>
    Vy p0 aY iI (x31.Name,x31.bA,x31.Weight,x31.bL,yc.Name,yc.bA,yc.Weight,yc.bL))))
 else
  (ae7 ())
def M4(l0:Layout)(p0:Plan):Option Int:=
 iter (Vx p0) FUEL 0
theorem anK(S:bB)(w:World)(l0:Layout)(aC:ak.R Layout)(p0:Plan)(au:ak.R Plan)(y:Int)(hM:M4 l0 p0=some y)(hS:sB S w)(fG:ak.ok S w aC l0)(gI:ak.ok S w au p0):
   Calls Tryz.prog 37 #[.agg (lC l0 aC),.agg (mY p0 au)] w (cu w (vI y)):=by
 refine bP (args:=[_,_]) Tryz.func37 rfl ((pre_nil hS).start |>.lS fG|>.oC gI) rfl ?_;unfold M4 at hM;refine sr ?_;refine oB (dP l0 aC) fun b1=>?_;refine oB (gZ p0 au) fun b2=>?_
 refine aP ?_;refine aG fun K2 hK2=>?_;refine sr ?_;refine oe (aD 5) ?_;refine oe (aJ (b:=b2)) ?_;refine iO (fun w hm=>Kn.len (kG p0.Turns au.2.2.2.2.1) hm) fun hl3=>?_;refine oe bJ ?_;refine om ?_;refine on ?_;refine bF ?_;refine lq hM (fun iI=>[(3,eP b2),(10,eS au.2.2.2.2.1 p0.Turns),(11,eI (p0.Turns.length:Int)),(12,eI (iI:Int))]) (fun iI=>[iL p0.aU au.1,iL p0.Routes au.2.1,iL p0.Lines au.2.2.1,iL p0.Changes au.2.2.2.1,iL p0.Turns au.2.2.2.2.1,iL p0.bq au.2.2.2.2.2.1,iL p0.bg au.2.2.2.2.2.2,own b2 35 (gZ p0 au)]) sS rI ?_;clear hM;rintro aY iI hM gu hL1
 dsimp only[Vx] at hM ⊢;refine sr ?_;refine oe cO ?_;refine on ?_;refine aG fun K5 bS=>?_;refine cc rfl hM (fun hc4 hM=>?_) (fun hc4 hM=>?_)
 ·have EL:=of_decide_eq_true hc4;refine aX (bS _ _ ?_);clear bS;refine aG fun K6 bZ=>?_;refine bF ?_;refine aO ?_;obtain⟨x5,hx6,hM⟩:=bind_some hM;refine oe (bI (xs:=p0.Turns) 4 (kG p0.Turns au.2.2.2.2.1) (iS hx6)) ?_;refine oe (fO (m:=4) (i:=(iI:Int)) (xs:=p0.Turns) (y:=x5) (l:=(yL x5)) 0 (kG p0.Turns au.2.2.2.2.1) (fun _=>hx6)) ?_;refine oA rfl fun b7=>?_;refine oa ?_;refine oS b7 (yL x5) ?_;refine on ?_;refine aG fun K8 eZ=>?_;refine sr ?_;refine oe (bX (b:=b2)) ?_;refine oe (aD 0) ?_;refine oe (aJ (b:=b7)) ?_;obtain⟨y8,sW,hM⟩:=bind_some hM;refine cv (fun hs=>aaF _ _ p0 au x5.From y8 sW (bC hs) ⟨(kM hs),(kM hs),(kM hs),(kM hs),(kM hs),(kM hs),(kM hs)⟩) ?_;refine oe fF ?_;refine om ?_;refine av rfl (bX (b:=b2)) ?_;refine av rfl (aD 1) ?_;refine av rfl (aJ (b:=b7)) ?_;obtain⟨jC,xB,hM⟩:=bind_some hM;refine cg rfl (fun hg hs=>aaF _ _ p0 au x5.To jC (fu xB hg) (bC hs) ⟨(kM hs),(kM hs),(kM hs),(kM hs),(kM hs),(kM hs),(kM hs)⟩) ?_
  refine av rfl fF ?_;refine oe eT ?_;refine om ?_;refine av rfl (bX (b:=b2)) ?_;refine av rfl (aD 2) ?_;refine av rfl (aJ (b:=b7)) ?_;refine av rfl (aD 3) ?_;refine av rfl (aJ (b:=b7)) ?_;obtain⟨ru,EO,hM⟩:=bind_some hM;refine cg rfl (fun hg hs=>aaA _ _ p0 au x5.Min x5.Max ru (fu EO hg) (bC hs) ⟨(kM hs),(kM hs),(kM hs),(kM hs),(kM hs),(kM hs),(kM hs)⟩) ?_;refine av rfl fF ?_;refine oe eT ?_;refine on ?_;refine cc rfl hM (fun zl hM=>?_) (fun zl hM=>?_)
  · refine bD ?_;exact aW (bN hM)
  refine aX (eZ _ _ ?_);clear eZ;refine aG fun o7 eH=>?_;refine sr ?_;refine oe (aD 5) ?_;refine oe (aJ (b:=b2)) ?_;refine om ?_;obtain⟨Cg,adC,hM⟩:=bind_some hM;refine bn (NK (r:=au.2.2.2.2.1) (xs:=p0.Turns) (ol:=none) (oh:=some (.i64,(iI:Int))) (Sk.dW (α:=List Turn) (r:=au.2.2.2.2.1) (x:=p0.Turns) hA) adC (fun uG=>?_));refine oe Jg ?_;obtain⟨jV,xD,hM⟩:=bind_some hM;refine cv (fun hs=>apj _ _ Cg uG b7 x5 jV xD (bC hs) (kM hs) (uE hA hs)) ?_;refine on ?_;refine cc rfl hM (fun Dr hM=>?_) (fun Dr hM=>?_)
  · refine bD ?_;exact aW (bN hM)
  refine aX (eH _ _ ?_);clear eH;refine jn (Nat×Nat) y (k:=Vy p0 aY iI) (fun (Uv,Pf,Uw,zA,WZ,TF,W9,Dy) (I7,KX)=>[(3,eP b2),(7,eP I7),(8,eP KX),(10,eS au.2.2.2.2.1 p0.Turns),(11,eI (p0.Turns.length:Int)),(12,eI (iI:Int))]) (fun (Uv,Pf,Uw,zA,WZ,TF,W9,Dy) (I7,KX)=>[iL p0.aU au.1,iL p0.Routes au.2.1,iL p0.Lines au.2.2.1,iL p0.Changes au.2.2.2.1,iL p0.Turns au.2.2.2.2.1,iL p0.bq au.2.2.2.2.2.1,iL p0.bg au.2.2.2.2.2.2,own b2 35 (gZ p0 au),iL zA (au.2.2.1.es x5.From.toNat),own I7 56 [.string Uv.ba,vI Pf,vI Uw,sL (au.2.2.1.es x5.From.toNat) zA],iL Dy (au.2.2.1.es x5.To.toNat),own KX 56 [.string WZ.ba,vI TF,vI W9,sL (au.2.2.1.es x5.To.toNat) Dy]]) ?_ ?_
  · intro za hJ2;refine iD _ (List.Sublist.refl _) ?_;refine ay 0 rfl (aD 3) ?_;refine ay 1 rfl (aJ (b:=b2)) ?_;refine ay 2 rfl (aD 0) ?_;refine ay 3 rfl (aJ (b:=b7)) ?_;obtain⟨x31,hx32,hM⟩:=bind_some hM;refine ay 4 rfl (bI (xs:=p0.Lines) 4 (kG p0.Lines au.2.2.1) (iS hx32)) ?_;refine ay 5 rfl (fO (m:=4) (i:=x5.From) (xs:=p0.Lines) (y:=x31) (l:=(mV x31 (au.2.2.1.es x5.From.toNat))) 0 (kG p0.Lines au.2.2.1) (fun _=>hx32)) ?_;refine ay 6 rfl (aD 3) ?_;refine ay 7 rfl (aJ (b:=b2)) ?_;refine ay 8 rfl (aD 1) ?_;refine ay 9 rfl (aJ (b:=b7)) ?_;obtain⟨yc,hx34,hM⟩:=bind_some hM;refine ay 10 rfl (bI (xs:=p0.Lines) 4 (kG p0.Lines au.2.2.1) (iS hx34)) ?_;refine ay 11 rfl (fO (m:=4) (i:=x5.To) (xs:=p0.Lines) (y:=yc) (l:=(mV yc (au.2.2.1.es x5.To.toNat))) 0 (kG p0.Lines au.2.2.1) (fun _=>hx34)) ?_;refine lM 12 13 (⟨_,rfl,rfl,gF rfl (k:=fun b35=>⟨rI,?_⟩)⟩) (⟨_,rfl,rfl,gF rfl (k:=fun Ot=>⟨rI,?_⟩)⟩)
    ·refine aA 13 rfl rfl fun Ou=>?_;refine aS 14 rfl b35 (mV x31 (au.2.2.1.es x5.From.toNat)) ?_;refine aS 15 rfl Ou (mV yc (au.2.2.1.es x5.To.toNat)) ?_;refine Om (fun w hm=>hm.GQ (α:=List dD) (r:=(au.2.2.1.es x5.From.toNat)) (x:=x31.bL) (fun S hs=>(Sk.elem (Sk.dW (α:=List Line) (r:=au.2.2.1) (x:=p0.Lines) hA) hx32) S w hs)) ?_;refine Om (fun w hm=>hm.GQ (α:=List dD) (r:=(au.2.2.1.es x5.To.toNat)) (x:=yc.bL) (fun S hs=>(Sk.elem (Sk.dW (α:=List Line) (r:=au.2.2.1) (x:=p0.Lines) hA) hx34) S w hs)) ?_;refine dY (hJ2 (b35,Ou) hM sS rI)
    refine aA 12 rfl rfl fun Gh=>?_;refine aS 14 rfl Gh (mV x31 (au.2.2.1.es x5.From.toNat)) ?_;refine aS 15 rfl Ot (mV yc (au.2.2.1.es x5.To.toNat)) ?_;refine Om (fun w hm=>hm.GQ (α:=List dD) (r:=(au.2.2.1.es x5.From.toNat)) (x:=x31.bL) (fun S hs=>(Sk.elem (Sk.dW (α:=List Line) (r:=au.2.2.1) (x:=p0.Lines) hA) hx32) S w hs)) ?_;refine Om (fun w hm=>hm.GQ (α:=List dD) (r:=(au.2.2.1.es x5.To.toNat)) (x:=yc.bL) (fun S hs=>(Sk.elem (Sk.dW (α:=List Line) (r:=au.2.2.1) (x:=p0.Lines) hA) hx34) S w hs)) ?_;refine dY (hJ2 (Gh,Ot) hM sS rI)
  clear hM;rintro⟨Uv,Pf,Uw,zA,WZ,TF,W9,Dy⟩ ⟨I7,KX⟩ hM;dsimp only[Vy] at hM ⊢;refine aG fun Ej ng=>?_;refine iD _ (List.Sublist.refl _) ?_;refine ay 0 rfl (bX (b:=b2)) ?_;refine ay 1 rfl (aD 3) ?_;refine ay 2 rfl (aJ (b:=I7)) ?_;refine ay 3 rfl (aD 3) ?_;refine ay 4 rfl (aJ (b:=I7)) ?_;refine ay 5 rfl bJ ?_;obtain⟨ajl,hM⟩:=dw hM;refine ay 6 rfl (xk (hr:=fun hg=>fH ajl)) ?_;obtain⟨Ee,PU,hM⟩:=bind_some hM;refine ay 7 rfl (bI (xs:=zA) 4 (kG zA (au.2.2.1.es x5.From.toNat)) (iS PU)) ?_;refine ay 8 rfl (fO (m:=4) (i:=((zA.length:Int)-1)) (xs:=zA) (y:=Ee) (l:=(wG Ee)) 0 (kG zA (au.2.2.1.es x5.From.toNat)) (fun _=>PU)) ?_;refine ay 10 rfl (bX (b:=b2)) ?_;refine ay 11 rfl (aD 3) ?_;refine ay 12 rfl (aJ (b:=KX)) ?_;obtain⟨x24,hx25,hM⟩:=bind_some hM;refine ay 13 rfl (bI (xs:=Dy) 4 (kG Dy (au.2.2.1.es x5.To.toNat)) (iS hx25)) ?_;refine ay 14 rfl (fO (m:=4) (i:=0) (xs:=Dy) (y:=x24) (l:=(wG x24)) 0 (kG Dy (au.2.2.1.es x5.To.toNat)) (fun _=>hx25)) ?_
  obtain⟨qL,hy27,hM⟩:=bind_some hM;refine eD 9 rfl (sV (fun hs=>aaK _ _ p0 au Ee qL hy27 (bC hs) ⟨(kM hs),(kM hs),(kM hs),(kM hs),(kM hs),(kM hs),(kM hs)⟩) ⟨rI,?_⟩);obtain⟨y28,hy29,hM⟩:=bind_some hM;refine eD 15 rfl (sV (fun hs=>aaJ _ _ p0 au x24 y28 hy29 (bC hs) ⟨(kM hs),(kM hs),(kM hs),(kM hs),(kM hs),(kM hs),(kM hs)⟩) ⟨rI,?_⟩);refine ay 16 rfl iy ?_;refine ay 17 rfl aH ?_;refine gH 18 rfl rfl (aD 1) ?_;refine gH 19 rfl rfl (aJ (b:=I7)) ?_;refine gH 20 rfl rfl (aD 1) ?_;refine gH 21 rfl rfl (aJ (b:=KX)) ?_;refine gH 22 rfl rfl iy ?_;refine ay 23 rfl eT ?_;refine dY (ng _ _ ?_);clear ng;refine cc rfl hM (fun GI hM=>?_) (fun GI hM=>?_)
  · refine bD ?_;exact aW (bN hM)
  refine aX (bZ _ _ ?_);clear bZ;refine aZ ?_;refine oe (dH (hr:=fun _=>by unfold d9;omega)) ?_;refine om ?_;refine bf (hL1 hM sS rI)
 refine dL (hK2 _ _ ?_);clear hK2;dsimp only[ae7] at hM;refine bD ?_;exact aW (bN hM)
def ae6:Unit→Option Int:=fun _=>
 some 0
def Vw(p0:Plan)(aY:Nat→Option Int):Nat→Option Int:=fun gq=>
 if decide ((gq:Int)<(p0.bq.length:Int)) then
  ((idx p0.bq (gq:Int)).bind fun x5=>
  (G8 p0 x5.mD x5.lV).bind fun y8=>
  (fV (!(!y8)) default (G8 p0 x5.mQ x5.mE)).bind fun jC=>
  if (((((!y8)||(!jC))||(decide (x5.mD=x5.mQ)&&decide (x5.lV=x5.mE)))||decide (x5.Offset<0))||decide (p0.bR≤x5.Offset)) then
   (some 4)
  else
   (aY (gq+1)))
 else
  (ae6 ())
def M0(l0:Layout)(p0:Plan):Option Int:=
 iter (Vw p0) FUEL 0
theorem anI(S:bB)(w:World)(l0:Layout)(aC:ak.R Layout)(p0:Plan)(au:ak.R Plan)(y:Int)(hM:M0 l0 p0=some y)(hS:sB S w)(fG:ak.ok S w aC l0)(gI:ak.ok S w au p0):
   Calls Tryz.prog 38 #[.agg (lC l0 aC),.agg (mY p0 au)] w (cu w (vI y)):=by
 refine bP (args:=[_,_]) Tryz.func38 rfl ((pre_nil hS).start |>.lS fG|>.oC gI) rfl ?_;unfold M0 at hM;refine sr ?_;refine oB (dP l0 aC) fun b1=>?_;refine oB (gZ p0 au) fun b2=>?_
 refine aP ?_;refine aG fun K2 hK2=>?_;refine sr ?_;refine oe (aD 6) ?_;refine oe (aJ (b:=b2)) ?_;refine iO (fun w hm=>Kn.len (kG p0.bq au.2.2.2.2.2.1) hm) fun hl3=>?_;refine oe bJ ?_;refine om ?_;refine on ?_;refine bF ?_;refine lq hM (fun gq=>[(3,eP b2),(8,eS au.2.2.2.2.2.1 p0.bq),(9,eI (p0.bq.length:Int)),(10,eI (gq:Int))]) (fun gq=>[iL p0.aU au.1,iL p0.Routes au.2.1,iL p0.Lines au.2.2.1,iL p0.Changes au.2.2.2.1,iL p0.Turns au.2.2.2.2.1,iL p0.bq au.2.2.2.2.2.1,iL p0.bg au.2.2.2.2.2.2,own b2 35 (gZ p0 au)]) sS rI ?_;clear hM;rintro aY gq hM gu hL1
 dsimp only[Vw] at hM ⊢;refine sr ?_;refine oe cO ?_;refine on ?_;refine aG fun K5 bS=>?_;refine cc rfl hM (fun hc4 hM=>?_) (fun hc4 hM=>?_)
 ·have EL:=of_decide_eq_true hc4;refine aX (bS _ _ ?_);clear bS;refine aG fun K6 bZ=>?_;refine bF ?_;refine sr ?_;obtain⟨x5,hx6,hM⟩:=bind_some hM;refine oe (bI (xs:=p0.bq) 5 (kG p0.bq au.2.2.2.2.2.1) (iS hx6)) ?_;refine oe (fO (m:=5) (i:=(gq:Int)) (xs:=p0.bq) (y:=x5) (l:=(JO x5)) 0 (kG p0.bq au.2.2.2.2.2.1) (fun _=>hx6)) ?_;refine oA rfl fun b7=>?_;refine oS b7 (JO x5) ?_;refine on ?_;refine sr ?_;refine oe (bX (b:=b2)) ?_;refine oe (aD 0) ?_;refine oe (aJ (b:=b7)) ?_;refine oe (aD 1) ?_;refine oe (aJ (b:=b7)) ?_;obtain⟨y8,sW,hM⟩:=bind_some hM;refine cv (fun hs=>Vz _ _ p0 au x5.mD x5.lV y8 sW (bC hs) ⟨(kM hs),(kM hs),(kM hs),(kM hs),(kM hs),(kM hs),(kM hs)⟩) ?_;refine oe fF ?_;refine om ?_;refine av rfl (bX (b:=b2)) ?_;refine av rfl (aD 2) ?_;refine av rfl (aJ (b:=b7)) ?_;refine av rfl (aD 3) ?_
  refine av rfl (aJ (b:=b7)) ?_;obtain⟨jC,xB,hM⟩:=bind_some hM;refine cg rfl (fun hg hs=>Vz _ _ p0 au x5.mQ x5.mE jC (fu xB hg) (bC hs) ⟨(kM hs),(kM hs),(kM hs),(kM hs),(kM hs),(kM hs),(kM hs)⟩) ?_;refine av rfl fF ?_;refine oe eT ?_;refine om ?_;refine av rfl (aD 0) ?_;refine av rfl (aJ (b:=b7)) ?_;refine av rfl (aD 2) ?_;refine av rfl (aJ (b:=b7)) ?_;refine av rfl eu ?_;refine av rfl aH ?_;refine av rfl (aD 1) ?_;refine av rfl (aJ (b:=b7)) ?_;refine av rfl (aD 3) ?_;refine av rfl (aJ (b:=b7)) ?_;refine av rfl eu ?_;refine av rfl dI ?_;refine oe eT ?_;refine om ?_;refine av rfl (aD 4) ?_;refine av rfl (aJ (b:=b7)) ?_;refine av rfl cO ?_;refine oe eT ?_;refine om ?_;refine av rfl (aD 4) ?_;refine av rfl (aJ (b:=b7)) ?_;refine av rfl (aD 0) ?_;refine av rfl (aJ (b:=b2)) ?_;refine av rfl jf ?_;refine oe eT ?_;refine on ?_;refine cc rfl hM (fun vX hM=>?_) (fun vX hM=>?_)
  · refine bD ?_;exact aW (bN hM)
  refine aX (bZ _ _ ?_);clear bZ;refine aZ ?_;refine oe (dH (hr:=fun _=>by unfold d9;omega)) ?_;refine om ?_;refine bf (hL1 hM sS rI)
 refine dL (hK2 _ _ ?_);clear hK2;dsimp only[ae6] at hM;refine bD ?_;exact aW (bN hM)
def ae1:Unit→Option Int:=fun _=>
 some 0
def Vs(p0:Plan)(l0:Layout)(aY:Nat→Option Int):Nat→Option Int:=fun gq=>
 if decide ((gq:Int)<(p0.bg.length:Int)) then
  ((idx p0.bg (gq:Int)).bind fun x5=>
  if ((((((decide (x5.From<0)||decide ((l0.aM.length:Int)≤x5.From))||decide (x5.To<0))||decide ((l0.aM.length:Int)≤x5.To))||decide (x5.From=x5.To))||decide (x5.Weight<1))||decide (1048576<x5.Weight)) then
   (some 4)
  else
   (aY (gq+1)))
 else
  (ae1 ())
def MS(l0:Layout)(p0:Plan):Option Int:=
 iter (Vs p0 l0) FUEL 0
theorem anA(S:bB)(w:World)(l0:Layout)(aC:ak.R Layout)(p0:Plan)(au:ak.R Plan)(y:Int)(hM:MS l0 p0=some y)(hS:sB S w)(fG:ak.ok S w aC l0)(gI:ak.ok S w au p0):
   Calls Tryz.prog 39 #[.agg (lC l0 aC),.agg (mY p0 au)] w (cu w (vI y)):=by
 refine bP (args:=[_,_]) Tryz.func39 rfl ((pre_nil hS).start |>.lS fG|>.oC gI) rfl ?_;unfold MS at hM;refine sr ?_;refine oB (dP l0 aC) fun b1=>?_;refine oB (gZ p0 au) fun b2=>?_
 refine aP ?_;refine aG fun K2 hK2=>?_;refine sr ?_;refine oe (aD 7) ?_;refine oe (aJ (b:=b2)) ?_;refine iO (fun w hm=>Kn.len (kG p0.bg au.2.2.2.2.2.2) hm) fun hl3=>?_;refine oe bJ ?_;refine om ?_;refine on ?_;refine bF ?_;refine lq hM (fun gq=>[(2,eP b1),(8,eS au.2.2.2.2.2.2 p0.bg),(9,eI (p0.bg.length:Int)),(10,eI (gq:Int))]) (fun gq=>[iL l0.aM aC.1,iL l0.aV aC.2.1,iL l0.Sections aC.2.2.1,iL l0.Links aC.2.2.2,own b1 26 (dP l0 aC),iL p0.bg au.2.2.2.2.2.2]) sS rI ?_;clear hM;rintro aY gq hM gu hL1;dsimp only[Vs] at hM ⊢;refine sr ?_;refine oe cO ?_;refine on ?_;refine aG fun K5 bS=>?_;refine cc rfl hM (fun hc4 hM=>?_) (fun hc4 hM=>?_)
 ·have EL:=of_decide_eq_true hc4;refine aX (bS _ _ ?_);clear bS;refine aG fun K6 bZ=>?_;refine bF ?_;refine sr ?_;obtain⟨x5,hx6,hM⟩:=bind_some hM;refine oe (bI (xs:=p0.bg) 3 (kG p0.bg au.2.2.2.2.2.2) (iS hx6)) ?_;refine oe (fO (m:=3) (i:=(gq:Int)) (xs:=p0.bg) (y:=x5) (l:=(JN x5)) 0 (kG p0.bg au.2.2.2.2.2.2) (fun _=>hx6)) ?_;refine oA rfl fun b7=>?_;refine oS b7 (JN x5) ?_;refine on ?_;refine sr ?_;refine oe (aD 0) ?_;refine oe (aJ (b:=b7)) ?_;refine oe cO ?_;refine om ?_;refine av rfl (aD 0) ?_;refine av rfl (aJ (b:=b7)) ?_;refine av rfl (aD 0) ?_;refine av rfl (aJ (b:=b1)) ?_;refine av rfl bJ ?_;refine av rfl jf ?_;refine oe eT ?_;refine om ?_;refine av rfl (aD 1) ?_;refine av rfl (aJ (b:=b7)) ?_;refine av rfl cO ?_;refine oe eT ?_;refine om ?_;refine av rfl (aD 1) ?_;refine av rfl (aJ (b:=b7)) ?_;refine av rfl (aD 0) ?_;refine av rfl (aJ (b:=b1)) ?_
  refine av rfl bJ ?_;refine av rfl jf ?_;refine oe eT ?_;refine om ?_;refine av rfl (aD 0) ?_;refine av rfl (aJ (b:=b7)) ?_;refine av rfl (aD 1) ?_;refine av rfl (aJ (b:=b7)) ?_;refine av rfl eu ?_;refine oe eT ?_;refine om ?_;refine av rfl (aD 2) ?_;refine av rfl (aJ (b:=b7)) ?_;refine av rfl cO ?_;refine oe eT ?_;refine om ?_;refine av rfl (aD 2) ?_;refine av rfl (aJ (b:=b7)) ?_;refine av rfl iw ?_;refine oe eT ?_;refine on ?_;refine cc rfl hM (fun hc8 hM=>?_) (fun hc8 hM=>?_)
  · refine bD ?_;exact aW (bN hM)
  refine aX (bZ _ _ ?_);clear bZ;refine aZ ?_;refine oe (dH (hr:=fun _=>by unfold d9;omega)) ?_;refine om ?_;refine bf (hL1 hM sS rI)
 refine dL (hK2 _ _ ?_);clear hK2;dsimp only[ae1] at hM;refine bD ?_;exact aW (bN hM)
def Vq(x:Nat)(l0:Layout)(p0:Plan):Option Int:=
 if x=32 then MX l0 p0
 else if x=33 then MZ l0 p0
 else if x=34 then MW l0 p0
 else if x=35 then MU l0 p0
 else if x=36 then MQ l0 p0
 else if x=37 then M4 l0 p0
 else if x=38 then M0 l0 p0
 else if x=39 then MS l0 p0
 else none
theorem anu{i:Int}{x:Nat}(h:idx ([32,33,34,35,36,37,38,39]:List Nat) i=some x):callable Tryz.prog x=true:=by
 have hm:=List.mem_of_getElem? (nu h).2.2
 simp only[List.mem_cons,List.not_mem_nil,or_false] at hm
 rcases hm with rfl|rfl|rfl|rfl|rfl|rfl|rfl|rfl
 ·exact (show callable Tryz.prog 32=true by kernel_rfl)
 ·exact (show callable Tryz.prog 33=true by kernel_rfl)
 ·exact (show callable Tryz.prog 34=true by kernel_rfl)
 ·exact (show callable Tryz.prog 35=true by kernel_rfl)
 ·exact (show callable Tryz.prog 36=true by kernel_rfl)
 ·exact (show callable Tryz.prog 37=true by kernel_rfl)
 ·exact (show callable Tryz.prog 38=true by kernel_rfl)
 ·exact (show callable Tryz.prog 39=true by kernel_rfl)
theorem anv(x:Nat)(S:bB)(w:World)(l0:Layout)(aC:ak.R Layout)(p0:Plan)(au:ak.R Plan)(y:Int)(hM:Vq x l0 p0=some y)(hS:sB S w)(fG:ak.ok S w aC l0)(gI:ak.ok S w au p0):
  Calls Tryz.prog x #[.agg (lC l0 aC),.agg (mY p0 au)] w (cu w (vI y)):=by
 unfold Vq at hM
 split at hM
 ·rename_i h;subst h;exact anF S w l0 aC p0 au y hM hS fG gI
 split at hM
 ·rename_i h;subst h;exact anH S w l0 aC p0 au y hM hS fG gI
 split at hM
 ·rename_i h;subst h;exact anE S w l0 aC p0 au y hM hS fG gI
 split at hM
 ·rename_i h;subst h;exact anC S w l0 aC p0 au y hM hS fG gI
 split at hM
 ·rename_i h;subst h;exact anz S w l0 aC p0 au y hM hS fG gI
 split at hM
 ·rename_i h;subst h;exact anK S w l0 aC p0 au y hM hS fG gI
 split at hM
 ·rename_i h;subst h;exact anI S w l0 aC p0 au y hM hS fG gI
 split at hM
 ·rename_i h;subst h;exact anA S w l0 aC p0 au y hM hS fG gI
 cases hM
def aeX:Unit→Option Int:=fun _=>
 some 0
def Vp(l0:Layout)(p0:Plan)(aY:Nat→Option Int):Nat→Option Int:=fun tK=>
 if decide ((tK:Int)<8) then
  ((idx ([32,33,34,35,36,37,38,39]:List Nat) (tK:Int)).bind fun x5=>
  (Vq x5 l0 p0).bind fun y7=>
  if decide (y7≠0) then
   (some y7)
  else
   (aY (tK+1)))
 else
  (aeX ())
def JR(l0:Layout)(p0:Plan):Option Int:=
 iter (Vp l0 p0) FUEL 0
theorem aay(S:bB)(w:World)(l0:Layout)(aC:ak.R Layout)(p0:Plan)(au:ak.R Plan)(y:Int)(hM:JR l0 p0=some y)(hS:sB S w)(fG:ak.ok S w aC l0)(gI:ak.ok S w au p0):
   Calls Tryz.prog 13 #[.agg (lC l0 aC),.agg (mY p0 au)] w (cu w (vI y)):=by
 refine bP (args:=[_,_]) Tryz.func13 rfl ((pre_nil hS).start |>.lS fG|>.oC gI) rfl ?_;unfold JR at hM;refine sr ?_;refine oB (dP l0 aC) fun b1=>?_;refine oB (gZ p0 au) fun b2=>?_
 refine aP ?_;refine sr ?_;refine oe (fT [.func (.func 32) #[] #[],.func (.func 33) #[] #[],.func (.func 34) #[] #[],.func (.func 35) #[] #[],.func (.func 36) #[] #[],.func (.func 37) #[] #[],.func (.func 38) #[] #[],.func (.func 39) #[] #[]]) ?_;refine oA rfl fun b3=>?_;refine oS b3 [.func (.func 32) #[] #[],.func (.func 33) #[] #[],.func (.func 34) #[] #[],.func (.func 35) #[] #[],.func (.func 36) #[] #[],.func (.func 37) #[] #[],.func (.func 38) #[] #[],.func (.func 39) #[] #[]] ?_;refine on ?_;refine aG fun K3 hK3=>?_;refine sr ?_;refine oe (bX (b:=b3)) ?_;refine om ?_;refine on ?_;refine bF ?_;refine lq hM (fun tK=>[(2,eP b1),(3,eP b2),(10,.v (.agg #[.func (.func 32) #[] #[],.func (.func 33) #[] #[],.func (.func 34) #[] #[],.func (.func 35) #[] #[],.func (.func 36) #[] #[],.func (.func 37) #[] #[],.func (.func 38) #[] #[],.func (.func 39) #[] #[]])),(11,eI (tK:Int))]) (fun tK=>[iL l0.aM aC.1,iL l0.aV aC.2.1,iL l0.Sections aC.2.2.1,iL l0.Links aC.2.2.2,own b1 26 (dP l0 aC),iL p0.aU au.1,iL p0.Routes au.2.1,iL p0.Lines au.2.2.1,iL p0.Changes au.2.2.2.1,iL p0.Turns au.2.2.2.2.1,iL p0.bq au.2.2.2.2.2.1,iL p0.bg au.2.2.2.2.2.2,own b2 35 (gZ p0 au)]) sS rI ?_
 clear hM;rintro aY tK hM gu hL1;dsimp only[Vp] at hM ⊢;refine sr ?_;refine oe cO ?_;refine on ?_;refine aG fun K6 bZ=>?_;refine cc rfl hM (fun hc4 hM=>?_) (fun hc4 hM=>?_)
 ·have EL:=of_decide_eq_true hc4;refine aX (bZ _ _ ?_);clear bZ;refine aG fun K7 dZ=>?_;refine bF ?_;refine sr ?_;obtain⟨x5,hx6,hM⟩:=bind_some hM;refine oe (aiB (xs:=([32,33,34,35,36,37,38,39]:List Nat)) [.func (.func 32) #[] #[],.func (.func 33) #[] #[],.func (.func 34) #[] #[],.func (.func 35) #[] #[],.func (.func 36) #[] #[],.func (.func 37) #[] #[],.func (.func 38) #[] #[],.func (.func 39) #[] #[]] (fun _=>hx6)) ?_;refine aP ?_;refine aO ?_;refine oe (bX (b:=b1)) ?_;refine oe (bX (b:=b2)) ?_;obtain⟨y7,Ca,hM⟩:=bind_some hM;refine bn (Ky (vs:=[.agg (lC l0 aC),.agg (mY p0 au)]) (cap:=[]) (hf:=anu hx6) (fun w hm=>let ⟨S,hs⟩:=hm;anv x5 _ w l0 aC p0 au y7 Ca (bC hs) ⟨(kM hs),(kM hs),(kM hs),(kM hs)⟩ ⟨(kM hs),(kM hs),(kM hs),(kM hs),(kM hs),(kM hs),(kM hs)⟩) ?_)
  refine aP ?_;refine aO ?_;refine oe iy ?_;refine on ?_;refine cc rfl hM (fun uV hM=>?_) (fun uV hM=>?_)
  · refine aO ?_;refine aP ?_;exact aW (bN hM)
  refine aX (dZ _ _ ?_);clear dZ;refine aZ ?_;refine oe (dH (hr:=fun _=>by unfold d9;omega)) ?_;refine om ?_;refine bf (hL1 hM sS rI)
 refine dL (hK3 _ _ ?_);clear hK3;dsimp only[aeX] at hM;refine bD ?_;exact aW (bN hM)
end Go.Proofs.YtcalibhfgdncaaaGreatDoor

/- Models of functions, and that the code computes them. -/
import Derived.Test.YtcalibhfgdncaaaGreatLm
set_option linter.all false
namespace Go.Proofs.YtcalibhfgdncaaaGreat
open Go.Dc Go.RowKit
set_option maxRecDepth 10000
def Qh(s0:Step):Option Step:=
 if decide (s0.Dir=0) then
  (some (Step.mk s0.Section 1))
 else
  (some (Step.mk s0.Section 0))
theorem DF(S:bF)(w:World)(s0:Step)(y:Step)(hM:Qh s0=some y)(hS:sB S w):
   Calls Tryz.prog 129 #[.agg (Fq s0)] w (dw w (.agg (Fq y))):=by
 refine bW (args:=[_]) Tryz.func129 rfl ((pre_nil hS).start) rfl ?_;unfold Qh at hM;refine sr ?_;refine oB (rM s0) fun b1=>?_;refine oA rfl fun b2=>?_;refine on ?_;refine aF fun K2 hK2=>?_;refine sr ?_;refine oe (ay 1) ?_;refine oe (aD (b:=b1)) ?_;refine oe fI ?_;refine on ?_;refine cc rfl hM (fun hc3 hM=>?_) (fun hc3 hM=>?_)
 ·refine sr ?_;refine oe (ay 0) ?_;refine oe (aD (b:=b1)) ?_;refine oe (gD [vI s0.Section,vI 1]) ?_;refine oS b2 [vI s0.Section,vI 1] ?_;refine on ?_;exact aP (bD hM)
 refine aM (hK2 _ _ ?_);clear hK2;refine sr ?_;refine oe (ay 0) ?_;refine oe (aD (b:=b1)) ?_;refine oe (gD [vI s0.Section,vI 0]) ?_;refine oS b2 [vI s0.Section,vI 0] ?_;refine on ?_;exact aP (bD hM)
def VR(l0:Layout)(s0:Step):Option Bool:=
 some ((decide (0≤s0.Section)&&decide (s0.Section<(l0.Sections.length:Int)))&&(decide (s0.Dir=0)||decide (s0.Dir=1)))
theorem amU(S:bF)(w:World)(l0:Layout)(aG:ak.R Layout)(s0:Step)(y:Bool)(hM:VR l0 s0=some y)(hS:sB S w)(eT:ak.ok S w aG l0):
  Calls Tryz.prog 124 #[.agg (lX l0 aG),.agg (Fq s0)] w (dw w (.bool y)):=by
 refine bW (args:=[_,_]) Tryz.func124 rfl ((pre_nil hS).start |>.ny eT) rfl ?_;unfold VR at hM;refine sr ?_;refine oB (eD l0 aG) fun b1=>?_;refine oB (rM s0) fun b2=>?_;refine aL ?_;refine sr ?_;refine oe (ay 0) ?_;refine oe (aD (b:=b2)) ?_;refine oe ig ?_;refine om ?_;refine au rfl (ay 0) ?_;refine au rfl (aD (b:=b2)) ?_;refine au rfl (ay 2) ?_;refine au rfl (aD (b:=b1)) ?_;refine au rfl bf ?_;refine au rfl bK ?_;refine oe dB ?_;refine om ?_;refine au rfl (ay 1) ?_;refine au rfl (aD (b:=b2)) ?_;refine au rfl fI ?_;refine au rfl aH ?_;refine au rfl (ay 1) ?_;refine au rfl (aD (b:=b2)) ?_;refine au rfl fI ?_
 refine au rfl bP ?_;refine oe dB ?_;refine aL ?_;exact aP (bD hM)
def Nl(s0:Step):Option mM:=
 if decide (s0.Dir=0) then
  (some (mM.mk s0.Section 1))
 else
  (some (mM.mk s0.Section 0))
theorem rQ(S:bF)(w:World)(s0:Step)(y:mM)(hM:Nl s0=some y)(hS:sB S w):
   Calls Tryz.prog 128 #[.agg (Fq s0)] w (dw w (.agg (ahi y))):=by
 refine bW (args:=[_]) Tryz.func128 rfl ((pre_nil hS).start) rfl ?_;unfold Nl at hM;refine sr ?_;refine oB (rM s0) fun b1=>?_;refine oA rfl fun b2=>?_;refine on ?_;refine aF fun K2 hK2=>?_;refine sr ?_;refine oe (ay 1) ?_;refine oe (aD (b:=b1)) ?_;refine oe fI ?_;refine on ?_;refine cc rfl hM (fun hc3 hM=>?_) (fun hc3 hM=>?_)
 ·refine sr ?_;refine oe (ay 0) ?_;refine oe (aD (b:=b1)) ?_;refine oe (gD [vI s0.Section,vI 1]) ?_;refine oS b2 [vI s0.Section,vI 1] ?_;refine on ?_;exact aP (bD hM)
 refine aM (hK2 _ _ ?_);clear hK2;refine sr ?_;refine oe (ay 0) ?_;refine oe (aD (b:=b1)) ?_;refine oe (gD [vI s0.Section,vI 0]) ?_;refine oS b2 [vI s0.Section,vI 0] ?_;refine on ?_;exact aP (bD hM)
def aaU(x6:Link)(yK:Int)(yL:Int)(zm:Int)(zn:Int)(aN:Nat→Option (Int×Bool))(CG:Nat):Unit→Option (Int×Bool):=fun _=>
 if ((decide ((mM.mk x6.A x6.dQ)=(mM.mk yK yL))&&decide ((mM.mk x6.B x6.dV)=(mM.mk zm zn)))||(decide ((mM.mk x6.A x6.dQ)=(mM.mk zm zn))&&decide ((mM.mk x6.B x6.dV)=(mM.mk yK yL)))) then
  (some (x6.Point,true))
 else
  (aN (CG+1))
def af8:Unit→Option (Int×Bool):=fun _=>
 some (0,false)
def RL(l0:Layout)(yK:Int)(yL:Int)(zm:Int)(zn:Int)(aN:Nat→Option (Int×Bool)):Nat→Option (Int×Bool):=fun CG=>
 if decide ((CG:Int)<(l0.Links.length:Int)) then
  ((idx l0.Links (CG:Int)).bind fun x6=>
  aaU x6 yK yL zm zn aN CG ())
 else
  (af8 ())
def VW(l0:Layout):(Int×Int×Int×Int)→Option (Int×Bool):=fun (yK,yL,zm,zn)=>
 iter (RL l0 yK yL zm zn) FUEL 0
def RN(l0:Layout)(s0:Step)(t0:Step):Option (Int×Bool):=
 (Nl s0).bind fun bZ=>
 (Qh t0).bind fun jE=>
 (Nl jE).bind fun y22=>
 VW l0 (bZ.tZ,bZ.side,y22.tZ,y22.side)
theorem amX(S:bF)(w:World)(l0:Layout)(aG:ak.R Layout)(s0:Step)(t0:Step)(y:Int×Bool)(hM:RN l0 s0 t0=some y)(hS:sB S w)(eT:ak.ok S w aG l0):
   Calls Tryz.prog 125 #[.agg (lX l0 aG),.agg (Fq s0),.agg (Fq t0)] w (dw w (.tuple #[vI y.1,.bool y.2])):=by
 refine bW (args:=[_,_,_]) Tryz.func125 rfl ((pre_nil hS).start |>.ny eT) rfl ?_;unfold RN at hM;refine sr ?_;refine oB (eD l0 aG) fun b1=>?_;refine oB (rM s0) fun b2=>?_;refine oB (rM t0) fun b3=>?_;refine oa ?_;refine aL ?_;refine jn (Nat×Nat) y (k:=VW l0) (fun (yK,yL,zm,zn) (En,Eo)=>[(3,eP b1),(8,eP En),(9,eP Eo)]) (fun (yK,yL,zm,zn) (En,Eo)=>[iL l0.bB aG.1,iL l0.bN aG.2.1,iL l0.Sections aG.2.2.1,iL l0.Links aG.2.2.2,own b1 27 (eD l0 aG),own En 216 [vI yK,vI yL],own Eo 216 [vI zm,vI zn]]) ?_ ?_
 ·intro Fj iR;refine fE _ (List.Sublist.refl _) ?_;refine aj 0 rfl (bM (b:=b2)) ?_;refine aj 2 rfl (bM (b:=b3)) ?_;obtain⟨bZ,pX,hM⟩:=bind_some hM;refine Em 1 5 6 (⟨_,rfl,rfl,nW (fun w hm=>let ⟨S,hs⟩:=hm;rQ _ w s0 bZ pX (bq hs)) ⟨rI,?_⟩⟩) (⟨_,rfl,rfl,iP rfl (k:=fun b16=>⟨rI,?_⟩)⟩) (⟨_,rfl,rfl,iP rfl (k:=fun b17=>⟨rI,?_⟩)⟩)
  · obtain⟨jE,yQ,hM⟩:=bind_some hM;refine Em 3 5 6 (⟨_,rfl,rfl,nW (fun w hm=>let ⟨S,hs⟩:=hm;DF _ w t0 jE yQ (bq hs)) ⟨rI,?_⟩⟩) (⟨_,rfl,rfl,iP rfl (k:=fun b20=>⟨rI,?_⟩)⟩) (⟨_,rfl,rfl,iP rfl (k:=fun Aq=>⟨rI,?_⟩)⟩)
    ·obtain⟨y22,yR,hM⟩:=bind_some hM;refine Em 4 5 6 (⟨_,rfl,rfl,nW (fun w hm=>let ⟨S,hs⟩:=hm;rQ _ w jE y22 yR (bq hs)) ⟨rI,?_⟩⟩) (⟨_,rfl,rfl,iP rfl (k:=fun zK=>⟨rI,?_⟩)⟩) (⟨_,rfl,rfl,iP rfl (k:=fun S9=>⟨rI,?_⟩)⟩)
     ·refine mP 5 6 (⟨_,rfl,rfl,iP rfl (k:=fun KI=>⟨rI,?_⟩)⟩) (⟨_,rfl,rfl,iP rfl (k:=fun KJ=>⟨rI,?_⟩)⟩)
      ·refine aA 6 rfl rfl fun b28=>?_;refine aS 7 rfl KI (kL bZ) ?_;refine aS 8 rfl b28 (kL y22) ?_;refine dK (iR (KI,b28) hM sS rI)
      refine aA 5 rfl rfl fun b29=>?_;refine aS 7 rfl b29 (kL bZ) ?_;refine aS 8 rfl KJ (kL y22) ?_;refine dK (iR (b29,KJ) hM sS rI)
     ·refine mP 4 6 (⟨_,rfl,rfl,nW (fun w hm=>let ⟨S,hs⟩:=hm;rQ _ w jE y22 yR (bq hs)) ⟨rI,?_⟩⟩) (⟨_,rfl,rfl,iP rfl (k:=fun Og=>⟨rI,?_⟩)⟩)
      ·refine aA 6 rfl rfl fun b31=>?_;refine aS 7 rfl zK (kL bZ) ?_;refine aS 8 rfl b31 (kL y22) ?_;refine dK (iR (zK,b31) hM sS rI)
      refine dX 4 rfl (sV (fun hs=>rQ _ _ jE y22 yR (bq hs)) ⟨rI,?_⟩);refine aS 7 rfl zK (kL bZ) ?_;refine aS 8 rfl Og (kL y22) ?_;refine dK (iR (zK,Og) hM sS rI)
     refine mP 4 5 (⟨_,rfl,rfl,nW (fun w hm=>let ⟨S,hs⟩:=hm;rQ _ w jE y22 yR (bq hs)) ⟨rI,?_⟩⟩) (⟨_,rfl,rfl,iP rfl (k:=fun b32=>⟨rI,?_⟩)⟩)
     ·refine aA 5 rfl rfl fun b33=>?_;refine aS 7 rfl b33 (kL bZ) ?_;refine aS 8 rfl S9 (kL y22) ?_;refine dK (iR (b33,S9) hM sS rI)
     refine dX 4 rfl (sV (fun hs=>rQ _ _ jE y22 yR (bq hs)) ⟨rI,?_⟩);refine aS 7 rfl b32 (kL bZ) ?_;refine aS 8 rfl S9 (kL y22) ?_;refine dK (iR (b32,S9) hM sS rI)
    ·refine mP 3 6 (⟨_,rfl,rfl,nW (fun w hm=>let ⟨S,hs⟩:=hm;DF _ w t0 jE yQ (bq hs)) ⟨rI,?_⟩⟩) (⟨_,rfl,rfl,iP rfl (k:=fun b34=>⟨rI,?_⟩)⟩)
     ·obtain⟨IK,Uo,hM⟩:=bind_some hM;refine mP 4 6 (⟨_,rfl,rfl,nW (fun w hm=>let ⟨S,hs⟩:=hm;rQ _ w jE IK Uo (bq hs)) ⟨rI,?_⟩⟩) (⟨_,rfl,rfl,iP rfl (k:=fun GK=>⟨rI,?_⟩)⟩)
      ·refine aA 6 rfl rfl fun Dh=>?_;refine aS 7 rfl b20 (kL bZ) ?_;refine aS 8 rfl Dh (kL IK) ?_;refine dK (iR (b20,Dh) hM sS rI)
      refine dX 4 rfl (sV (fun hs=>rQ _ _ jE IK Uo (bq hs)) ⟨rI,?_⟩);refine aS 7 rfl b20 (kL bZ) ?_;refine aS 8 rfl GK (kL IK) ?_;refine dK (iR (b20,GK) hM sS rI)
     refine dX 3 rfl (sV (fun hs=>DF _ _ t0 jE yQ (bq hs)) ⟨rI,?_⟩);obtain⟨y39,PI,hM⟩:=bind_some hM;refine dX 4 rfl (sV (fun hs=>rQ _ _ jE y39 PI (bq hs)) ⟨rI,?_⟩);refine aS 7 rfl b20 (kL bZ) ?_;refine aS 8 rfl b34 (kL y39) ?_;refine dK (iR (b20,b34) hM sS rI)
    refine mP 3 5 (⟨_,rfl,rfl,nW (fun w hm=>let ⟨S,hs⟩:=hm;DF _ w t0 jE yQ (bq hs)) ⟨rI,?_⟩⟩) (⟨_,rfl,rfl,iP rfl (k:=fun Fu=>⟨rI,?_⟩)⟩)
    ·obtain⟨jK,Uq,hM⟩:=bind_some hM;refine mP 4 5 (⟨_,rfl,rfl,nW (fun w hm=>let ⟨S,hs⟩:=hm;rQ _ w jE jK Uq (bq hs)) ⟨rI,?_⟩⟩) (⟨_,rfl,rfl,iP rfl (k:=fun Ar=>⟨rI,?_⟩)⟩)
     ·refine aA 5 rfl rfl fun b45=>?_;refine aS 7 rfl b45 (kL bZ) ?_;refine aS 8 rfl Aq (kL jK) ?_;refine dK (iR (b45,Aq) hM sS rI)
     refine dX 4 rfl (sV (fun hs=>rQ _ _ jE jK Uq (bq hs)) ⟨rI,?_⟩);refine aS 7 rfl Ar (kL bZ) ?_;refine aS 8 rfl Aq (kL jK) ?_;refine dK (iR (Ar,Aq) hM sS rI)
    refine dX 3 rfl (sV (fun hs=>DF _ _ t0 jE yQ (bq hs)) ⟨rI,?_⟩);obtain⟨sI,hy47,hM⟩:=bind_some hM;refine dX 4 rfl (sV (fun hs=>rQ _ _ jE sI hy47 (bq hs)) ⟨rI,?_⟩);refine aS 7 rfl Fu (kL bZ) ?_;refine aS 8 rfl Aq (kL sI) ?_;refine dK (iR (Fu,Aq) hM sS rI)
  · refine mP 1 6 (⟨_,rfl,rfl,nW (fun w hm=>let ⟨S,hs⟩:=hm;rQ _ w s0 bZ pX (bq hs)) ⟨rI,?_⟩⟩) (⟨_,rfl,rfl,iP rfl (k:=fun b48=>⟨rI,?_⟩)⟩)
    ·obtain⟨Fb,Us,hM⟩:=bind_some hM;refine mP 3 6 (⟨_,rfl,rfl,nW (fun w hm=>let ⟨S,hs⟩:=hm;DF _ w t0 Fb Us (bq hs)) ⟨rI,?_⟩⟩) (⟨_,rfl,rfl,iP rfl (k:=fun b51=>⟨rI,?_⟩)⟩)
     ·obtain⟨Xb,aep,hM⟩:=bind_some hM;refine mP 4 6 (⟨_,rfl,rfl,nW (fun w hm=>let ⟨S,hs⟩:=hm;rQ _ w Fb Xb aep (bq hs)) ⟨rI,?_⟩⟩) (⟨_,rfl,rfl,iP rfl (k:=fun b54=>⟨rI,?_⟩)⟩)
      ·refine aA 6 rfl rfl fun b55=>?_;refine aS 7 rfl b16 (kL bZ) ?_;refine aS 8 rfl b55 (kL Xb) ?_;refine dK (iR (b16,b55) hM sS rI)
      refine dX 4 rfl (sV (fun hs=>rQ _ _ Fb Xb aep (bq hs)) ⟨rI,?_⟩);refine aS 7 rfl b16 (kL bZ) ?_;refine aS 8 rfl b54 (kL Xb) ?_;refine dK (iR (b16,b54) hM sS rI)
     refine dX 3 rfl (sV (fun hs=>DF _ _ t0 Fb Us (bq hs)) ⟨rI,?_⟩);obtain⟨y56,akL,hM⟩:=bind_some hM;refine dX 4 rfl (sV (fun hs=>rQ _ _ Fb y56 akL (bq hs)) ⟨rI,?_⟩);refine aS 7 rfl b16 (kL bZ) ?_;refine aS 8 rfl b51 (kL y56) ?_;refine dK (iR (b16,b51) hM sS rI)
    refine dX 1 rfl (sV (fun hs=>rQ _ _ s0 bZ pX (bq hs)) ⟨rI,?_⟩);obtain⟨IL,Zv,hM⟩:=bind_some hM;refine dX 3 rfl (sV (fun hs=>DF _ _ t0 IL Zv (bq hs)) ⟨rI,?_⟩);obtain⟨Gx,Zw,hM⟩:=bind_some hM;refine dX 4 rfl (sV (fun hs=>rQ _ _ IL Gx Zw (bq hs)) ⟨rI,?_⟩);refine aS 7 rfl b16 (kL bZ) ?_;refine aS 8 rfl b48 (kL Gx) ?_;refine dK (iR (b16,b48) hM sS rI)
  refine mP 1 5 (⟨_,rfl,rfl,nW (fun w hm=>let ⟨S,hs⟩:=hm;rQ _ w s0 bZ pX (bq hs)) ⟨rI,?_⟩⟩) (⟨_,rfl,rfl,iP rfl (k:=fun b62=>⟨rI,?_⟩)⟩)
  · obtain⟨uo,Ut,hM⟩:=bind_some hM;refine mP 3 5 (⟨_,rfl,rfl,nW (fun w hm=>let ⟨S,hs⟩:=hm;DF _ w t0 uo Ut (bq hs)) ⟨rI,?_⟩⟩) (⟨_,rfl,rfl,iP rfl (k:=fun b65=>⟨rI,?_⟩)⟩)
    ·obtain⟨vL,Uu,hM⟩:=bind_some hM;refine mP 4 5 (⟨_,rfl,rfl,nW (fun w hm=>let ⟨S,hs⟩:=hm;rQ _ w uo vL Uu (bq hs)) ⟨rI,?_⟩⟩) (⟨_,rfl,rfl,iP rfl (k:=fun XC=>⟨rI,?_⟩)⟩)
     ·refine aA 5 rfl rfl fun b69=>?_;refine aS 7 rfl b69 (kL bZ) ?_;refine aS 8 rfl b17 (kL vL) ?_;refine dK (iR (b69,b17) hM sS rI)
     refine dX 4 rfl (sV (fun hs=>rQ _ _ uo vL Uu (bq hs)) ⟨rI,?_⟩);refine aS 7 rfl XC (kL bZ) ?_;refine aS 8 rfl b17 (kL vL) ?_;refine dK (iR (XC,b17) hM sS rI)
    refine dX 3 rfl (sV (fun hs=>DF _ _ t0 uo Ut (bq hs)) ⟨rI,?_⟩);obtain⟨y70,akR,hM⟩:=bind_some hM;refine dX 4 rfl (sV (fun hs=>rQ _ _ uo y70 akR (bq hs)) ⟨rI,?_⟩);refine aS 7 rfl b65 (kL bZ) ?_;refine aS 8 rfl b17 (kL y70) ?_;refine dK (iR (b65,b17) hM sS rI)
  refine dX 1 rfl (sV (fun hs=>rQ _ _ s0 bZ pX (bq hs)) ⟨rI,?_⟩);obtain⟨BH,Zx,hM⟩:=bind_some hM;refine dX 3 rfl (sV (fun hs=>DF _ _ t0 BH Zx (bq hs)) ⟨rI,?_⟩);obtain⟨NW,Zy,hM⟩:=bind_some hM;refine dX 4 rfl (sV (fun hs=>rQ _ _ BH NW Zy (bq hs)) ⟨rI,?_⟩);refine aS 7 rfl b62 (kL bZ) ?_;refine aS 8 rfl b17 (kL NW) ?_;refine dK (iR (b62,b17) hM sS rI)
 clear hM;rintro⟨yK,yL,zm,zn⟩ ⟨En,Eo⟩ hM;dsimp only[VW] at hM ⊢;refine aF fun K2 hK2=>?_;refine sr ?_;refine oe (ay 3) ?_;refine oe (aD (b:=b1)) ?_;refine gU (fun w hm=>Kn.len (kG l0.Links aG.2.2.2) hm) fun hl4=>?_;refine oe bf ?_;refine om ?_;refine on ?_;refine aV ?_;refine lq hM (fun CG=>[(8,eP En),(9,eP Eo),(20,eS aG.2.2.2 l0.Links),(21,eI (l0.Links.length:Int)),(22,eI (CG:Int))]) (fun CG=>[own En 216 [vI yK,vI yL],own Eo 216 [vI zm,vI zn],iL l0.Links aG.2.2.2]) sS rI ?_;clear hM;rintro aN CG hM fQ hL1;dsimp only[RL] at hM ⊢;refine sr ?_;refine oe bK ?_;refine on ?_;refine aF fun K5 bT=>?_;refine cc rfl hM (fun jO hM=>?_) (fun jO hM=>?_)
 ·have ajV:=of_decide_eq_true jO;refine aM (bT _ _ ?_);clear bT;refine aF fun K6 bU=>?_;refine aV ?_;refine sr ?_;obtain⟨x6,hx7,hM⟩:=bind_some hM;refine oe (aQ (xs:=l0.Links) 6 (kG l0.Links aG.2.2.2) (iS hx7)) ?_;refine oe (eY (m:=6) (i:=(CG:Int)) (xs:=l0.Links) (y:=x6) (l:=(uF x6)) 0 (kG l0.Links aG.2.2.2) (fun _=>hx7)) ?_;refine oA rfl fun b8=>?_;refine oS b8 (uF x6) ?_;refine on ?_;refine jn (Nat×Nat) y (k:=aaU x6 yK yL zm zn aN CG) (fun _ (KO,KP)=>[(8,eP En),(9,eP Eo),(11,eP b8),(12,eP KO),(13,eP KP),(20,eS aG.2.2.2 l0.Links),(21,eI (l0.Links.length:Int)),(22,eI (CG:Int))]) (fun _ (KO,KP)=>[own En 216 [vI yK,vI yL],own Eo 216 [vI zm,vI zn],own b8 144 (uF x6),own KO 216 [vI x6.A,vI x6.dQ],own KP 216 [vI x6.B,vI x6.dV],iL l0.Links aG.2.2.2]) ?_ ?_
  · intro IU hJ3;refine fE _ (List.Sublist.refl _) ?_;refine aj 0 rfl (ay 0) ?_;refine aj 1 rfl (aD (b:=b8)) ?_;refine aj 2 rfl (ay 1) ?_;refine aj 3 rfl (aD (b:=b8)) ?_;refine aj 4 rfl (gD [vI x6.A,vI x6.dQ]) ?_;refine aj 5 rfl (ay 2) ?_;refine aj 6 rfl (aD (b:=b8)) ?_;refine aj 7 rfl (ay 3) ?_;refine aj 8 rfl (aD (b:=b8)) ?_;refine aj 9 rfl (gD [vI x6.B,vI x6.dV]) ?_;refine mP 10 11 (⟨_,rfl,rfl,iP rfl (k:=fun b10=>⟨rI,?_⟩)⟩) (⟨_,rfl,rfl,iP rfl (k:=fun b11=>⟨rI,?_⟩)⟩)
    ·refine aA 11 rfl rfl fun b12=>?_;refine aS 12 rfl b10 [vI x6.A,vI x6.dQ] ?_;refine aS 13 rfl b12 [vI x6.B,vI x6.dV] ?_;refine dK (hJ3 (b10,b12) hM sS rI)
    refine aA 10 rfl rfl fun b13=>?_;refine aS 12 rfl b13 [vI x6.A,vI x6.dQ] ?_;refine aS 13 rfl b11 [vI x6.B,vI x6.dV] ?_;refine dK (hJ3 (b13,b11) hM sS rI)
  clear hM;rintro⟨⟩ ⟨KO,KP⟩ hM;dsimp only[aaU] at hM ⊢;refine sr ?_;refine oe (bM (b:=KO)) ?_;refine oe (bM (b:=En)) ?_;refine oe (La [.int .i64,.int .i64] (decide ((mM.mk x6.A x6.dQ)=(mM.mk yK yL))) (SK _ _)) ?_;refine om ?_;refine au rfl (bM (b:=KP)) ?_;refine au rfl (bM (b:=Eo)) ?_;refine au rfl (La [.int .i64,.int .i64] (decide ((mM.mk x6.B x6.dV)=(mM.mk zm zn))) (SK _ _)) ?_;refine oe dB ?_;refine om ?_;refine au rfl (bM (b:=KO)) ?_;refine au rfl (bM (b:=Eo)) ?_;refine au rfl (La [.int .i64,.int .i64] (decide ((mM.mk x6.A x6.dQ)=(mM.mk zm zn))) (SK _ _)) ?_;refine au rfl aH ?_;refine au rfl (bM (b:=KP)) ?_;refine au rfl (bM (b:=En)) ?_;refine au rfl (La [.int .i64,.int .i64] (decide ((mM.mk x6.B x6.dV)=(mM.mk yK yL))) (SK _ _)) ?_;refine au rfl dB ?_;refine oe bP ?_;refine on ?_;refine cc rfl hM (fun rY hM=>?_) (fun rY hM=>?_)
  · refine sr ?_;refine oe (ay 4) ?_;refine oe (aD (b:=b8)) ?_;refine oa ?_;refine aL ?_;exact aP (CF hM)
  refine aM (bU _ _ ?_);clear bU;refine aT ?_;refine oe (dh (hr:=fun _=>by unfold dS;omega)) ?_;refine om ?_;refine aU (hL1 hM sS rI)
 refine bX (hK2 _ _ ?_);clear hK2;dsimp only[af8] at hM;refine sr ?_;refine oa ?_;refine aL ?_;exact aP (CF hM)
def aaT(EH:List Int):Unit→Option ((List Int)×Int):=fun _=>
 some (EH,0)
def RH(AP:List Step)(r0:aO)(l0:Layout)(gY:((List Int)×Nat)→Option ((List Int)×Int)):((List Int)×Nat)→Option ((List Int)×Int):=fun (EH,Fa)=>
 if decide ((Fa:Int)<(AP.length:Int)) then
  ((idx AP (Fa:Int)).bind fun x41=>
  (idx r0.Steps (Fa:Int)).bind fun II=>
  (RN l0 II x41).bind fun sI=>
  if (!sI.2) then
   (some (([]:List Int),11))
  else
   (aX (decide ((EH.length+([sI.1]:List Int).length)*8≤140737488355328))<|
   gY ((EH++([sI.1]:List Int)),Fa+1)))
 else
  (aaT EH ())
def VU(r0:aO)(l0:Layout):Unit→Option ((List Int)×Int):=fun _=>
 (sub r0.Steps 1 (r0.Steps.length:Int)).bind fun AP=>
 iter (RH AP r0 l0) FUEL (([]:List Int),0)
def RG(r0:aO)(l0:Layout)(cu:((List Bool)×Nat)→Option ((List Int)×Int)):((List Bool)×Nat)→Option ((List Int)×Int):=fun (Cb,IC)=>
 if decide ((IC:Int)<(r0.Steps.length:Int)) then
  ((idx r0.Steps (IC:Int)).bind fun x25=>
  (idx Cb x25.Section).bind fun x28=>
  if x28 then
   (some (([]:List Int),5))
  else
   ((idx Cb x25.Section).bind fun x32=>
   cu ((Cb.set x25.Section.toNat true),IC+1)))
 else
  (VU r0 l0 ())
def VT(l0:Layout)(r0:aO):Unit→Option ((List Int)×Int):=fun _=>
 (mk (α:=Bool) false (l0.Sections.length:Int)).bind fun m20=>
 iter (RG r0 l0) FUEL (m20,0)
def RF(r0:aO)(l0:Layout)(aN:Nat→Option ((List Int)×Int)):Nat→Option ((List Int)×Int):=fun Iw=>
 if decide ((Iw:Int)<(r0.Steps.length:Int)) then
  ((idx r0.Steps (Iw:Int)).bind fun iw=>
  (VR l0 iw).bind fun qo=>
  if (!qo) then
   (some (([]:List Int),4))
  else
   (aN (Iw+1)))
 else
  (VT l0 r0 ())
def RI(r0:aO)(l0:Layout):Bool→Option ((List Int)×Int):=fun Sd=>
 if Sd then
  (some (([]:List Int),4))
 else
  (iter (RF r0 l0) FUEL 0)
def Nn(r0:aO)(l0:Layout):Bool→Option ((List Int)×Int):=fun Sc=>
 if Sc then
  (some (([]:List Int),7))
 else
  (if decide (r0.Overlap<0) then
   (RI r0 l0 (decide (r0.Overlap<0)))
  else
   (aX (bA ((r0.Steps.length:Int)-r0.Overlap))<|
   RI r0 l0 (decide (((r0.Steps.length:Int)-r0.Overlap)<2))))
def RJ(l0:Layout)(r0:aO):Option ((List Int)×Int):=
 (Qg l0).bind fun y3=>
 if decide (y3≠0) then
  (some (([]:List Int),1))
 else
  (if decide (24<(r0.Steps.length:Int)) then
   (Nn r0 l0 (decide (24<(r0.Steps.length:Int))))
  else
   (Nn r0 l0 (decide (2<r0.Overlap))))
theorem amW(S:bF)(w:World)(l0:Layout)(aG:ak.R Layout)(r0:aO)(aC:ak.R aO)(y:(List Int)×Int)(hM:RJ l0 r0=some y)(hS:sB S w)(eT:ak.ok S w aG l0)(ku:ak.ok S w aC r0):
   Calls Tryz.prog 104 #[.agg (lX l0 aG),.agg (Ao r0 aC)] w (Post (β:=(ak.R (List Int))) S [] (fun g=> .tuple #[sL g y.1,vI y.2]) (fun g=>[ah 3 g y.1]) w):=by
 refine bW (args:=[_,_]) Tryz.func104 rfl ((pre_nil hS).start |>.ny eT|>.dZ (α:=List Step) (r:=aC) (x:=r0.Steps) ku) rfl ?_;unfold RJ at hM;refine sr ?_;refine oB (eD l0 aG) fun b1=>?_;refine oB (jV r0 aC) fun b2=>?_;refine oa ?_;refine aL ?_;refine aF fun K2 hK2=>?_;refine aV ?_;refine sr ?_;refine oe (bM (b:=b1)) ?_;obtain⟨y3,hy4,hM⟩:=bind_some hM;refine cv (fun hs=>aeJ _ _ l0 aG y3 hy4 (bq hs) ⟨(kM hs),(kM hs),(kM hs),(kM hs)⟩) ?_;refine oe gH ?_;refine aL ?_;refine cc rfl hM (fun jO hM=>?_) (fun jO hM=>?_)
 ·refine sr ?_;refine oa ?_;refine aL ?_;refine dJ (fun w hm=>hm.dR (α:=Int) 3 (fun _=>())) ?_;obtain rfl:=some_inj hM;refine aP (nu (fun w hm=>gK eB hm rfl))
 refine jm y (k:=Nn r0 l0) (fun Sc=>[(2,eP b1),(3,eP b2),(20,.v (.bool Sc))]) (fun Sc=>[iL l0.bB aG.1,iL l0.bN aG.2.1,iL l0.Sections aG.2.2.1,iL l0.Links aG.2.2.2,own b1 27 (eD l0 aG),iL r0.Steps aC,own b2 85 (jV r0 aC)]) ?_ ?_
 ·intro Fj iR;refine sr ?_;refine oe (ay 0) ?_;refine oe (aD (b:=b2)) ?_;refine oe bf ?_;refine oe eO ?_;refine aL ?_;refine cc rfl hM (fun YS hM=>?_) (fun YS hM=>?_)
  · refine aM (iR hM sS rI)
  refine aT ?_;refine oe (ay 1) ?_;refine oe (aD (b:=b2)) ?_;refine oe eO ?_;refine oa ?_;refine aU (iR hM sS rI)
 clear hM;rintro Sc hM;dsimp only[Nn] at hM ⊢;refine cc rfl hM (fun lY hM=>?_) (fun lY hM=>?_)
 ·refine sr ?_;refine oa ?_;refine aL ?_;refine dJ (fun w hm=>hm.dR (α:=Int) 3 (fun _=>())) ?_;obtain rfl:=some_inj hM;refine aP (nu (fun w hm=>gK eB hm rfl))
 refine jm y (k:=RI r0 l0) (fun Sd=>[(2,eP b1),(3,eP b2),(28,.v (.bool Sd))]) (fun Sd=>[iL l0.bB aG.1,iL l0.bN aG.2.1,iL l0.Sections aG.2.2.1,iL l0.Links aG.2.2.2,own b1 27 (eD l0 aG),iL r0.Steps aC,own b2 85 (jV r0 aC)]) ?_ ?_
 ·intro zB hJ2;refine sr ?_;refine oe (ay 1) ?_;refine oe (aD (b:=b2)) ?_;refine oe bK ?_;refine aL ?_;refine cc rfl hM (fun Lm hM=>?_) (fun Lm hM=>?_)
  · refine aM (hJ2 hM sS rI)
  refine aT ?_;refine oe (ay 0) ?_;refine oe (aD (b:=b2)) ?_;refine oe bf ?_;refine oe (ay 1) ?_;refine oe (aD (b:=b2)) ?_;refine oN hM fun hM=>?_;refine oe bK ?_;refine oa ?_;refine aU (hJ2 hM sS rI)
 clear hM;rintro Sd hM;dsimp only[RI] at hM ⊢;refine cc rfl hM (fun rY hM=>?_) (fun rY hM=>?_)
 ·refine sr ?_;refine oa ?_;refine aL ?_;refine dJ (fun w hm=>hm.dR (α:=Int) 3 (fun _=>())) ?_;obtain rfl:=some_inj hM;refine aP (nu (fun w hm=>gK eB hm rfl))
 refine aM (hK2 _ _ ?_);clear hK2;refine aF fun K7 eU=>?_;refine sr ?_;refine oe (ay 0) ?_;refine oe (aD (b:=b2)) ?_;refine gU (fun w hm=>Kn.len (kG r0.Steps aC) hm) fun ad9=>?_;refine oe bf ?_;refine om ?_;refine on ?_;refine aV ?_;refine lq hM (fun Iw=>[(2,eP b1),(3,eP b2),(40,eS aC r0.Steps),(41,eI (r0.Steps.length:Int)),(42,eI (Iw:Int))]) (fun Iw=>[iL l0.bB aG.1,iL l0.bN aG.2.1,iL l0.Sections aG.2.2.1,iL l0.Links aG.2.2.2,own b1 27 (eD l0 aG),iL r0.Steps aC,own b2 85 (jV r0 aC)]) sS rI ?_;clear hM;rintro aN Iw hM fQ hL1;dsimp only[RF] at hM ⊢;refine sr ?_;refine oe bK ?_;refine on ?_;refine aF fun sK gy=>?_;refine cc rfl hM (fun qQ hM=>?_) (fun qQ hM=>?_)
 ·have ajK:=of_decide_eq_true qQ;refine aM (gy _ _ ?_);clear gy;refine aF fun pR eH=>?_;refine aV ?_;refine sr ?_;obtain⟨iw,qB,hM⟩:=bind_some hM;refine oe (aQ (xs:=r0.Steps) 2 (kG r0.Steps aC) (iS qB)) ?_;refine oe (eY (m:=2) (i:=(Iw:Int)) (xs:=r0.Steps) (y:=iw) (l:=(rM iw)) 0 (kG r0.Steps aC) (fun _=>qB)) ?_;refine oA rfl fun b15=>?_;refine oS b15 (rM iw) ?_;refine on ?_;refine sr ?_;refine oe (bM (b:=b1)) ?_;refine oe (bM (b:=b15)) ?_;obtain⟨qo,FV,hM⟩:=bind_some hM;refine cv (fun hs=>amU _ _ l0 aG iw qo FV (bq hs) ⟨(kM hs),(kM hs),(kM hs),(kM hs)⟩) ?_;refine oe dN ?_;refine on ?_;refine cc rfl hM (fun hc18 hM=>?_) (fun hc18 hM=>?_)
  · refine sr ?_;refine oa ?_;refine aL ?_;refine dJ (fun w hm=>hm.dR (α:=Int) 3 (fun _=>())) ?_;obtain rfl:=some_inj hM;refine aP (nu (fun w hm=>gK eB hm rfl))
  refine aM (eH _ _ ?_);clear eH;refine aT ?_;refine oe (dh (hr:=fun _=>by unfold dS;omega)) ?_;refine om ?_;refine aU (hL1 hM sS rI)
 refine bX (eU _ _ ?_);clear eU;dsimp only[VT] at hM;refine sr ?_;refine oe (ay 2) ?_;refine oe (aD (b:=b1)) ?_;refine oe bf ?_;obtain⟨m20,Y5,hM⟩:=bind_some hM;refine aY (yw (α:=Bool) (e:=4) false () Y5 (fun _ _=>trivial) (fun oM akz=>?_));refine aL ?_;refine aF fun yF jC=>?_;refine sr ?_;refine oe (ay 0) ?_;refine oe (aD (b:=b2)) ?_;refine gU (fun w hm=>Kn.len (kG r0.Steps aC) hm) fun aeb=>?_;refine oe bf ?_;refine om ?_;refine on ?_;refine aV ?_;refine lq hM (fun (Cb,IC)=>[(2,eP b1),(3,eP b2),(8,eS oM Cb),(56,eS aC r0.Steps),(57,eI (r0.Steps.length:Int)),(58,eI (IC:Int))]) (fun (Cb,IC)=>[iL l0.bB aG.1,iL l0.bN aG.2.1,iL l0.Sections aG.2.2.1,iL l0.Links aG.2.2.2,own b1 27 (eD l0 aG),iL r0.Steps aC,own b2 85 (jV r0 aC),ah 4 oM Cb]) sS rI ?_
 clear hM;rintro cu ⟨Cb,IC⟩ hM qM hL2;dsimp only[RG] at hM ⊢;refine sr ?_;refine oe bK ?_;refine on ?_;refine aF fun CX mE=>?_;refine cc rfl hM (fun hc24 hM=>?_) (fun hc24 hM=>?_)
 ·have ajN:=of_decide_eq_true hc24;refine aM (mE _ _ ?_);clear mE;refine aF fun CY mF=>?_;refine aV ?_;refine sr ?_;obtain⟨x25,vU,hM⟩:=bind_some hM;refine oe (aQ (xs:=r0.Steps) 2 (kG r0.Steps aC) (iS vU)) ?_;refine oe (eY (m:=2) (i:=(IC:Int)) (xs:=r0.Steps) (y:=x25) (l:=(rM x25)) 0 (kG r0.Steps aC) (fun _=>vU)) ?_;refine oA rfl fun KJ=>?_;refine oS KJ (rM x25) ?_;refine on ?_;refine aF fun CZ ni=>?_;refine aJ ?_;refine oe (ay 0) ?_;refine oe (aD (b:=KJ)) ?_;obtain⟨x28,hx29,hM⟩:=bind_some hM;refine oe (aQ (xs:=Cb) 1 (Kn.ah (e:=4) (r:=oM) hA) (iS hx29)) ?_;refine oe (bE (i:=x25.Section) (xs:=Cb) (y:=x28) 0 (Kn.ah (e:=4) (r:=oM) hA) (fun _=>hx29)) ?_;refine on ?_;refine cc rfl hM (fun Jg hM=>?_) (fun Jg hM=>?_)
  · refine sr ?_;refine oa ?_;refine aL ?_;refine dJ (fun w hm=>hm.dR (α:=Int) 3 (fun _=>())) ?_;obtain rfl:=some_inj hM;refine aP (nu (fun w hm=>gK eB hm rfl))
  refine aM (ni _ _ ?_);clear ni;refine aT ?_;refine om ?_;refine oe (ay 0) ?_;refine oe (aD (b:=KJ)) ?_;obtain⟨x32,Zb,hM⟩:=bind_some hM;refine oe (aQ (xs:=Cb) 1 (Kn.ah (e:=4) (r:=oM) hA) (iS Zb)) ?_;refine aY (qm (r:=oM) (i:=x25.Section) (xs:=Cb) (u:=x32) (vs:=[.bool true]) 0 true Zb rfl (fun _ _ h=>h) uA ?_);have hx34:=nP (u:=true) Zb;refine aU (mF _ _ ?_);clear mF;refine aT ?_;refine oe (dh (hr:=fun _=>by unfold dS;omega)) ?_;refine om ?_;refine aU (hL2 hM ⟨rfl,rfl,(by simp only[List.length_set,eS,sL];rfl),rfl,rfl,rfl,trivial⟩ rI)
 refine bX (jC _ _ ?_);clear jC;dsimp only[VU] at hM;refine bg ?_;refine aF fun Gz qA=>?_;refine sr ?_;refine oe (ay 0) ?_;refine oe (aD (b:=b2)) ?_;obtain⟨AP,akn,hM⟩:=bind_some hM;refine aY (NG (r:=aC) (xs:=r0.Steps) (ol:=some (.i64,1)) (oh:=none) (Sk.cO (α:=List Step) (r:=aC) (x:=r0.Steps) hA) akn (fun yg=>?_));refine gU (fun w hm=>Kn.len (kG AP yg) hm) fun aos=>?_;refine oe bf ?_;refine om ?_;refine on ?_;refine aV ?_;refine dJ (fun w hm=>hm.dR (α:=Int) 3 (fun _=>())) ?_;refine lp eB hM (fun (EH,Fa) Ni=>[(2,eP b1),(3,eP b2),(11,eS Ni EH),(74,eS yg AP),(75,eI (AP.length:Int)),(76,eI (Fa:Int))]) (fun (EH,Fa) Ni=>[iL l0.bB aG.1,iL l0.bN aG.2.1,iL l0.Sections aG.2.2.1,iL l0.Links aG.2.2.2,own b1 27 (eD l0 aG),iL r0.Steps aC,own b2 85 (jV r0 aC),ah 3 Ni EH,iL AP yg]) sS rI ?_
 clear hM;rintro gY ⟨EH,Fa⟩ Ni hM zC hL3;dsimp only[RH] at hM ⊢;refine sr ?_;refine oe bK ?_;refine on ?_;refine aF fun IQ rX=>?_;refine cc rfl hM (fun Pp hM=>?_) (fun Pp hM=>?_)
 ·have ajQ:=of_decide_eq_true Pp;refine aM (rX _ _ ?_);clear rX;refine aF fun KD uy=>?_;refine aV ?_;refine aJ ?_;obtain⟨x41,Pz,hM⟩:=bind_some hM;refine oe (aQ (xs:=AP) 2 (kG AP yg) (iS Pz)) ?_;refine oe (eY (m:=2) (i:=(Fa:Int)) (xs:=AP) (y:=x41) (l:=(rM x41)) 0 (kG AP yg) (fun _=>Pz)) ?_;refine oA rfl fun b43=>?_;refine oa ?_;refine oS b43 (rM x41) ?_;refine on ?_;refine aF fun K32 GZ=>?_;refine fE _ (List.Sublist.refl _) ?_;refine aj 0 rfl (bM (b:=b1)) ?_;refine aj 1 rfl (ay 0) ?_;refine aj 2 rfl (aD (b:=b2)) ?_;refine aj 3 rfl aH ?_;obtain⟨II,FQ,hM⟩:=bind_some hM;refine aj 4 rfl (aQ (xs:=r0.Steps) 2 (kG r0.Steps aC) (iS FQ)) ?_;refine aj 5 rfl (eY (m:=2) (i:=(Fa:Int)) (xs:=r0.Steps) (y:=II) (l:=(rM II)) 0 (kG r0.Steps aC) (fun _=>FQ)) ?_;refine aj 6 rfl (bM (b:=b43)) ?_;obtain⟨sI,hy47,hM⟩:=bind_some hM;refine dX 7 rfl (sV (fun hs=>amX _ _ l0 aG II x41 sI hy47 (bq hs) ⟨(kM hs),(kM hs),(kM hs),(kM hs)⟩) ⟨rI,?_⟩)
  refine aj 8 rfl aH ?_;refine aj 9 rfl (jl (vs:=[vI sI.1,.bool sI.2])) ?_;refine aj 10 rfl (jl (vs:=[vI sI.1,.bool sI.2])) ?_;refine aj 11 rfl dL ?_;refine aj 12 rfl dL ?_;refine dK (GZ _ _ ?_);clear GZ;refine aF fun SG xK=>?_;refine aJ ?_;refine oe dN ?_;refine on ?_;refine cc rfl hM (fun YP hM=>?_) (fun YP hM=>?_)
  · refine sr ?_;refine oa ?_;refine aL ?_;refine dJ (fun w hm=>hm.dR (α:=Int) 3 (fun _=>())) ?_;obtain rfl:=some_inj hM;refine aP (nu (fun w hm=>gK eB hm rfl))
  refine aM (xK _ _ ?_);clear xK;refine aT ?_;refine om ?_;refine om ?_;refine aY (fH (α:=Int) 3 (fun _=>()) ([sI.1]:List Int) oF (fun MO=>?_));obtain⟨ajx,hM⟩:=bQ hM;refine aY (jy (r:=Ni) (r2:=MO) uR (Kn.ah (e:=3) (r:=MO) hA) oF (of_decide_eq_true ajx) (fun yh=>?_));refine oa ?_;refine aU (uy _ _ ?_);clear uy;refine aT ?_;refine oe (dh (hr:=fun _=>by unfold dS;omega)) ?_;refine om ?_;refine aU (hL3 yh hM sS rI)
 refine bX (qA _ _ ?_);clear qA;dsimp only[aaT] at hM;refine aJ ?_;refine oa ?_;refine aL ?_;obtain rfl:=some_inj hM;refine aP (nu (fun w hm=>gK Ni hm rfl))
def Nk(l0:Layout)(r0:aO):Option Int:=
 (RJ l0 r0).bind fun y3=>
 some y3.2
theorem af7(S:bF)(w:World)(l0:Layout)(aG:ak.R Layout)(r0:aO)(aC:ak.R aO)(y:Int)(hM:Nk l0 r0=some y)(hS:sB S w)(eT:ak.ok S w aG l0)(ku:ak.ok S w aC r0):
  Calls Tryz.prog 69 #[.agg (lX l0 aG),.agg (Ao r0 aC)] w (dw w (vI y)):=by
 refine bW (args:=[_,_]) Tryz.func69 rfl ((pre_nil hS).start |>.ny eT|>.dZ (α:=List Step) (r:=aC) (x:=r0.Steps) ku) rfl ?_;unfold Nk at hM;refine sr ?_;refine oB (eD l0 aG) fun b1=>?_;refine oB (jV r0 aC) fun b2=>?_;refine aL ?_;refine sr ?_;refine oe (bM (b:=b1)) ?_;refine oe (bM (b:=b2)) ?_;obtain⟨y3,hy4,hM⟩:=bind_some hM;refine aY (fP jL.nil (fun S w hs hP=>amW _ w l0 aG r0 aC y3 hy4 (bq hs) ⟨(kM hs),(kM hs),(kM hs),(kM hs)⟩ (kM hs)) fO (fun r5=>?_));dsimp only[cA,nA];refine om ?_;refine oe (jl (vs:=[sL r5 y3.1,vI y3.2])) ?_;refine oe (jl (vs:=[sL r5 y3.1,vI y3.2])) ?_;refine oa ?_
 refine aL ?_;refine aJ ?_;refine aL ?_;exact aP (bD hM)
end Go.Proofs.YtcalibhfgdncaaaGreat

/- Models of functions, and that the code computes them. -/
import Derived.Test.YtcalibhfgdncaaaGreatDoorLm
set_option linter.all false
namespace Go.Proofs.YtcalibhfgdncaaaGreatDoor
open Go.Dc Go.RowKit
set_option maxRecDepth 10000
def Rj(s0:Step):Option Step:=
 if decide (s0.Dir=0) then
  (some (Step.mk s0.Section 1))
 else
  (some (Step.mk s0.Section 0))
theorem Cv(S:bO)(w:World)(s0:Step)(y:Step)(hM:Rj s0=some y)(hS:sB S w):
   Calls Tryz.prog 192 #[.agg (EO s0)] w (dz w (.agg (EO y))):=by
 refine cu (args:=[_]) Tryz.func192 rfl ((pre_nil hS).start) rfl ?_;unfold Rj at hM;refine sr ?_;refine oB (o9 s0) fun b1=>?_;refine oA rfl fun b2=>?_;refine on ?_;refine aK fun K2 hK2=>?_;refine sr ?_;refine oe (av 1) ?_;refine oe (aF (b:=b1)) ?_;refine oe dU ?_;refine on ?_;refine cc rfl hM (fun hc3 hM=>?_) (fun hc3 hM=>?_)
 ·refine sr ?_;refine oe (av 0) ?_;refine oe (aF (b:=b1)) ?_;refine oe (gI [vI s0.Section,vI 1]) ?_;refine oS b2 [vI s0.Section,vI 1] ?_;refine on ?_;exact aY (bQ hM)
 refine aX (hK2 _ _ ?_);clear hK2;refine sr ?_;refine oe (av 0) ?_;refine oe (aF (b:=b1)) ?_;refine oe (gI [vI s0.Section,vI 0]) ?_;refine oS b2 [vI s0.Section,vI 0] ?_;refine on ?_;exact aY (bQ hM)
def Xj(l0:Layout)(s0:Step):Option Bool:=
 some ((decide (0≤s0.Section)&&decide (s0.Section<(l0.Sections.length:Int)))&&(decide (s0.Dir=0)||decide (s0.Dir=1)))
theorem aqL(S:bO)(w:World)(l0:Layout)(ay:aC.R Layout)(s0:Step)(y:Bool)(hM:Xj l0 s0=some y)(hS:sB S w)(dZ:aC.ok S w ay l0):
  Calls Tryz.prog 174 #[.agg (jN l0 ay),.agg (EO s0)] w (dz w (.bool y)):=by
 refine cu (args:=[_,_]) Tryz.func174 rfl ((pre_nil hS).start |>.lY dZ) rfl ?_;unfold Xj at hM;refine sr ?_;refine oB (cK l0 ay) fun b1=>?_;refine oB (o9 s0) fun b2=>?_;refine aT ?_;refine sr ?_;refine oe (av 0) ?_;refine oe (aF (b:=b2)) ?_;refine oe jK ?_;refine om ?_;refine aD rfl (av 0) ?_;refine aD rfl (aF (b:=b2)) ?_;refine aD rfl (av 2) ?_;refine aD rfl (aF (b:=b1)) ?_;refine aD rfl bL ?_;refine aD rfl bY ?_;refine oe dG ?_;refine om ?_;refine aD rfl (av 1) ?_;refine aD rfl (aF (b:=b2)) ?_;refine aD rfl dU ?_;refine aD rfl aL ?_;refine aD rfl (av 1) ?_;refine aD rfl (aF (b:=b2)) ?_;refine aD rfl dU ?_
 refine aD rfl dQ ?_;refine oe dG ?_;refine aT ?_;exact aY (bQ hM)
def Ow(s0:Step):Option mK:=
 if decide (s0.Dir=0) then
  (some (mK.mk s0.Section 1))
 else
  (some (mK.mk s0.Section 0))
theorem qJ(S:bO)(w:World)(s0:Step)(y:mK)(hM:Ow s0=some y)(hS:sB S w):
   Calls Tryz.prog 191 #[.agg (EO s0)] w (dz w (.agg (aiP y))):=by
 refine cu (args:=[_]) Tryz.func191 rfl ((pre_nil hS).start) rfl ?_;unfold Ow at hM;refine sr ?_;refine oB (o9 s0) fun b1=>?_;refine oA rfl fun b2=>?_;refine on ?_;refine aK fun K2 hK2=>?_;refine sr ?_;refine oe (av 1) ?_;refine oe (aF (b:=b1)) ?_;refine oe dU ?_;refine on ?_;refine cc rfl hM (fun hc3 hM=>?_) (fun hc3 hM=>?_)
 ·refine sr ?_;refine oe (av 0) ?_;refine oe (aF (b:=b1)) ?_;refine oe (gI [vI s0.Section,vI 1]) ?_;refine oS b2 [vI s0.Section,vI 1] ?_;refine on ?_;exact aY (bQ hM)
 refine aX (hK2 _ _ ?_);clear hK2;refine sr ?_;refine oe (av 0) ?_;refine oe (aF (b:=b1)) ?_;refine oe (gI [vI s0.Section,vI 0]) ?_;refine oS b2 [vI s0.Section,vI 0] ?_;refine on ?_;exact aY (bQ hM)
def aci(x6:Link)(xL:Int)(xM:Int)(yj:Int)(yt:Int)(bA:Nat→Option (Int×Bool))(BI:Nat):Unit→Option (Int×Bool):=fun _=>
 if ((decide ((mK.mk x6.A x6.dN)=(mK.mk xL xM))&&decide ((mK.mk x6.B x6.dV)=(mK.mk yj yt)))||(decide ((mK.mk x6.A x6.dN)=(mK.mk yj yt))&&decide ((mK.mk x6.B x6.dV)=(mK.mk xL xM)))) then
  (some (x6.Point,true))
 else
  (bA (BI+1))
def ahr:Unit→Option (Int×Bool):=fun _=>
 some (0,false)
def TI(l0:Layout)(xL:Int)(xM:Int)(yj:Int)(yt:Int)(bA:Nat→Option (Int×Bool)):Nat→Option (Int×Bool):=fun BI=>
 if decide ((BI:Int)<(l0.Links.length:Int)) then
  ((idx l0.Links (BI:Int)).bind fun x6=>
  aci x6 xL xM yj yt bA BI ())
 else
  (ahr ())
def Xm(l0:Layout):(Int×Int×Int×Int)→Option (Int×Bool):=fun (xL,xM,yj,yt)=>
 iter (TI l0 xL xM yj yt) FUEL 0
def TJ(l0:Layout)(s0:Step)(t0:Step):Option (Int×Bool):=
 (Ow s0).bind fun eG=>
 (Rj t0).bind fun jW=>
 (Ow jW).bind fun y22=>
 Xm l0 (eG.rX,eG.side,y22.rX,y22.side)
theorem aqO(S:bO)(w:World)(l0:Layout)(ay:aC.R Layout)(s0:Step)(t0:Step)(y:Int×Bool)(hM:TJ l0 s0 t0=some y)(hS:sB S w)(dZ:aC.ok S w ay l0):
   Calls Tryz.prog 175 #[.agg (jN l0 ay),.agg (EO s0),.agg (EO t0)] w (dz w (.tuple #[vI y.1,.bool y.2])):=by
 refine cu (args:=[_,_,_]) Tryz.func175 rfl ((pre_nil hS).start |>.lY dZ) rfl ?_;unfold TJ at hM;refine sr ?_;refine oB (cK l0 ay) fun b1=>?_;refine oB (o9 s0) fun b2=>?_;refine oB (o9 t0) fun b3=>?_;refine oa ?_;refine aT ?_;refine jn (Nat×Nat) y (k:=Xm l0) (fun (xL,xM,yj,yt) (DV,DW)=>[(3,eP b1),(8,eP DV),(9,eP DW)]) (fun (xL,xM,yj,yt) (DV,DW)=>[iL l0.aU ay.1,iL l0.bG ay.2.1,iL l0.Sections ay.2.2.1,iL l0.Links ay.2.2.2,own b1 26 (cK l0 ay),own DV 256 [vI xL,vI xM],own DW 256 [vI yj,vI yt]]) ?_ ?_
 ·intro zB fu;refine gy _ (List.Sublist.refl _) ?_;refine ak 0 rfl (bR (b:=b2)) ?_;refine ak 2 rfl (bR (b:=b3)) ?_;obtain⟨eG,uf,hM⟩:=bind_some hM;refine DT 1 5 6 (⟨_,rfl,rfl,lK (fun w hm=>let ⟨S,hs⟩:=hm;qJ _ w s0 eG uf (bf hs)) ⟨rI,?_⟩⟩) (⟨_,rfl,rfl,iw rfl (k:=fun b16=>⟨rI,?_⟩)⟩) (⟨_,rfl,rfl,iw rfl (k:=fun b17=>⟨rI,?_⟩)⟩)
  · obtain⟨jW,xU,hM⟩:=bind_some hM;refine DT 3 5 6 (⟨_,rfl,rfl,lK (fun w hm=>let ⟨S,hs⟩:=hm;Cv _ w t0 jW xU (bf hs)) ⟨rI,?_⟩⟩) (⟨_,rfl,rfl,iw rfl (k:=fun b20=>⟨rI,?_⟩)⟩) (⟨_,rfl,rfl,iw rfl (k:=fun LQ=>⟨rI,?_⟩)⟩)
    ·obtain⟨y22,zS,hM⟩:=bind_some hM;refine DT 4 5 6 (⟨_,rfl,rfl,lK (fun w hm=>let ⟨S,hs⟩:=hm;qJ _ w jW y22 zS (bf hs)) ⟨rI,?_⟩⟩) (⟨_,rfl,rfl,iw rfl (k:=fun yI=>⟨rI,?_⟩)⟩) (⟨_,rfl,rfl,iw rfl (k:=fun Jd=>⟨rI,?_⟩)⟩)
     ·refine mh 5 6 (⟨_,rfl,rfl,iw rfl (k:=fun b26=>⟨rI,?_⟩)⟩) (⟨_,rfl,rfl,iw rfl (k:=fun LU=>⟨rI,?_⟩)⟩)
      ·refine aA 6 rfl rfl fun b28=>?_;refine aS 7 rfl b26 (ku eG) ?_;refine aS 8 rfl b28 (ku y22) ?_;refine dP (fu (b26,b28) hM sS rI)
      refine aA 5 rfl rfl fun b29=>?_;refine aS 7 rfl b29 (ku eG) ?_;refine aS 8 rfl LU (ku y22) ?_;refine dP (fu (b29,LU) hM sS rI)
     ·refine mh 4 6 (⟨_,rfl,rfl,lK (fun w hm=>let ⟨S,hs⟩:=hm;qJ _ w jW y22 zS (bf hs)) ⟨rI,?_⟩⟩) (⟨_,rfl,rfl,iw rfl (k:=fun b30=>⟨rI,?_⟩)⟩)
      ·refine aA 6 rfl rfl fun b31=>?_;refine aS 7 rfl yI (ku eG) ?_;refine aS 8 rfl b31 (ku y22) ?_;refine dP (fu (yI,b31) hM sS rI)
      refine dH 4 rfl (sV (fun hs=>qJ _ _ jW y22 zS (bf hs)) ⟨rI,?_⟩);refine aS 7 rfl yI (ku eG) ?_;refine aS 8 rfl b30 (ku y22) ?_;refine dP (fu (yI,b30) hM sS rI)
     refine mh 4 5 (⟨_,rfl,rfl,lK (fun w hm=>let ⟨S,hs⟩:=hm;qJ _ w jW y22 zS (bf hs)) ⟨rI,?_⟩⟩) (⟨_,rfl,rfl,iw rfl (k:=fun b32=>⟨rI,?_⟩)⟩)
     ·refine aA 5 rfl rfl fun ES=>?_;refine aS 7 rfl ES (ku eG) ?_;refine aS 8 rfl Jd (ku y22) ?_;refine dP (fu (ES,Jd) hM sS rI)
     refine dH 4 rfl (sV (fun hs=>qJ _ _ jW y22 zS (bf hs)) ⟨rI,?_⟩);refine aS 7 rfl b32 (ku eG) ?_;refine aS 8 rfl Jd (ku y22) ?_;refine dP (fu (b32,Jd) hM sS rI)
    ·refine mh 3 6 (⟨_,rfl,rfl,lK (fun w hm=>let ⟨S,hs⟩:=hm;Cv _ w t0 jW xU (bf hs)) ⟨rI,?_⟩⟩) (⟨_,rfl,rfl,iw rfl (k:=fun b34=>⟨rI,?_⟩)⟩)
     ·obtain⟨AY,Mw,hM⟩:=bind_some hM;refine mh 4 6 (⟨_,rfl,rfl,lK (fun w hm=>let ⟨S,hs⟩:=hm;qJ _ w jW AY Mw (bf hs)) ⟨rI,?_⟩⟩) (⟨_,rfl,rfl,iw rfl (k:=fun Gs=>⟨rI,?_⟩)⟩)
      ·refine aA 6 rfl rfl fun BQ=>?_;refine aS 7 rfl b20 (ku eG) ?_;refine aS 8 rfl BQ (ku AY) ?_;refine dP (fu (b20,BQ) hM sS rI)
      refine dH 4 rfl (sV (fun hs=>qJ _ _ jW AY Mw (bf hs)) ⟨rI,?_⟩);refine aS 7 rfl b20 (ku eG) ?_;refine aS 8 rfl Gs (ku AY) ?_;refine dP (fu (b20,Gs) hM sS rI)
     refine dH 3 rfl (sV (fun hs=>Cv _ _ t0 jW xU (bf hs)) ⟨rI,?_⟩);obtain⟨y39,aas,hM⟩:=bind_some hM;refine dH 4 rfl (sV (fun hs=>qJ _ _ jW y39 aas (bf hs)) ⟨rI,?_⟩);refine aS 7 rfl b20 (ku eG) ?_;refine aS 8 rfl b34 (ku y39) ?_;refine dP (fu (b20,b34) hM sS rI)
    refine mh 3 5 (⟨_,rfl,rfl,lK (fun w hm=>let ⟨S,hs⟩:=hm;Cv _ w t0 jW xU (bf hs)) ⟨rI,?_⟩⟩) (⟨_,rfl,rfl,iw rfl (k:=fun Je=>⟨rI,?_⟩)⟩)
    ·obtain⟨jF,VE,hM⟩:=bind_some hM;refine mh 4 5 (⟨_,rfl,rfl,lK (fun w hm=>let ⟨S,hs⟩:=hm;qJ _ w jW jF VE (bf hs)) ⟨rI,?_⟩⟩) (⟨_,rfl,rfl,iw rfl (k:=fun qN=>⟨rI,?_⟩)⟩)
     ·refine aA 5 rfl rfl fun b45=>?_;refine aS 7 rfl b45 (ku eG) ?_;refine aS 8 rfl LQ (ku jF) ?_;refine dP (fu (b45,LQ) hM sS rI)
     refine dH 4 rfl (sV (fun hs=>qJ _ _ jW jF VE (bf hs)) ⟨rI,?_⟩);refine aS 7 rfl qN (ku eG) ?_;refine aS 8 rfl LQ (ku jF) ?_;refine dP (fu (qN,LQ) hM sS rI)
    refine dH 3 rfl (sV (fun hs=>Cv _ _ t0 jW xU (bf hs)) ⟨rI,?_⟩);obtain⟨tC,hy47,hM⟩:=bind_some hM;refine dH 4 rfl (sV (fun hs=>qJ _ _ jW tC hy47 (bf hs)) ⟨rI,?_⟩);refine aS 7 rfl Je (ku eG) ?_;refine aS 8 rfl LQ (ku tC) ?_;refine dP (fu (Je,LQ) hM sS rI)
  · refine mh 1 6 (⟨_,rfl,rfl,lK (fun w hm=>let ⟨S,hs⟩:=hm;qJ _ w s0 eG uf (bf hs)) ⟨rI,?_⟩⟩) (⟨_,rfl,rfl,iw rfl (k:=fun b48=>⟨rI,?_⟩)⟩)
    ·obtain⟨tF,JG,hM⟩:=bind_some hM;refine mh 3 6 (⟨_,rfl,rfl,lK (fun w hm=>let ⟨S,hs⟩:=hm;Cv _ w t0 tF JG (bf hs)) ⟨rI,?_⟩⟩) (⟨_,rfl,rfl,iw rfl (k:=fun b51=>⟨rI,?_⟩)⟩)
     ·obtain⟨Yj,afb,hM⟩:=bind_some hM;refine mh 4 6 (⟨_,rfl,rfl,lK (fun w hm=>let ⟨S,hs⟩:=hm;qJ _ w tF Yj afb (bf hs)) ⟨rI,?_⟩⟩) (⟨_,rfl,rfl,iw rfl (k:=fun b54=>⟨rI,?_⟩)⟩)
      ·refine aA 6 rfl rfl fun b55=>?_;refine aS 7 rfl b16 (ku eG) ?_;refine aS 8 rfl b55 (ku Yj) ?_;refine dP (fu (b16,b55) hM sS rI)
      refine dH 4 rfl (sV (fun hs=>qJ _ _ tF Yj afb (bf hs)) ⟨rI,?_⟩);refine aS 7 rfl b16 (ku eG) ?_;refine aS 8 rfl b54 (ku Yj) ?_;refine dP (fu (b16,b54) hM sS rI)
     refine dH 3 rfl (sV (fun hs=>Cv _ _ t0 tF JG (bf hs)) ⟨rI,?_⟩);obtain⟨y56,aob,hM⟩:=bind_some hM;refine dH 4 rfl (sV (fun hs=>qJ _ _ tF y56 aob (bf hs)) ⟨rI,?_⟩);refine aS 7 rfl b16 (ku eG) ?_;refine aS 8 rfl b51 (ku y56) ?_;refine dP (fu (b16,b51) hM sS rI)
    refine dH 1 rfl (sV (fun hs=>qJ _ _ s0 eG uf (bf hs)) ⟨rI,?_⟩);obtain⟨y58,aod,hM⟩:=bind_some hM;refine dH 3 rfl (sV (fun hs=>Cv _ _ t0 y58 aod (bf hs)) ⟨rI,?_⟩);obtain⟨Gc,aav,hM⟩:=bind_some hM;refine dH 4 rfl (sV (fun hs=>qJ _ _ y58 Gc aav (bf hs)) ⟨rI,?_⟩);refine aS 7 rfl b16 (ku eG) ?_;refine aS 8 rfl b48 (ku Gc) ?_;refine dP (fu (b16,b48) hM sS rI)
  refine mh 1 5 (⟨_,rfl,rfl,lK (fun w hm=>let ⟨S,hs⟩:=hm;qJ _ w s0 eG uf (bf hs)) ⟨rI,?_⟩⟩) (⟨_,rfl,rfl,iw rfl (k:=fun b62=>⟨rI,?_⟩)⟩)
  · obtain⟨sw,VH,hM⟩:=bind_some hM;refine mh 3 5 (⟨_,rfl,rfl,lK (fun w hm=>let ⟨S,hs⟩:=hm;Cv _ w t0 sw VH (bf hs)) ⟨rI,?_⟩⟩) (⟨_,rfl,rfl,iw rfl (k:=fun b65=>⟨rI,?_⟩)⟩)
    ·obtain⟨uO,VI,hM⟩:=bind_some hM;refine mh 4 5 (⟨_,rfl,rfl,lK (fun w hm=>let ⟨S,hs⟩:=hm;qJ _ w sw uO VI (bf hs)) ⟨rI,?_⟩⟩) (⟨_,rfl,rfl,iw rfl (k:=fun YH=>⟨rI,?_⟩)⟩)
     ·refine aA 5 rfl rfl fun b69=>?_;refine aS 7 rfl b69 (ku eG) ?_;refine aS 8 rfl b17 (ku uO) ?_;refine dP (fu (b69,b17) hM sS rI)
     refine dH 4 rfl (sV (fun hs=>qJ _ _ sw uO VI (bf hs)) ⟨rI,?_⟩);refine aS 7 rfl YH (ku eG) ?_;refine aS 8 rfl b17 (ku uO) ?_;refine dP (fu (YH,b17) hM sS rI)
    refine dH 3 rfl (sV (fun hs=>Cv _ _ t0 sw VH (bf hs)) ⟨rI,?_⟩);obtain⟨y70,aoi,hM⟩:=bind_some hM;refine dH 4 rfl (sV (fun hs=>qJ _ _ sw y70 aoi (bf hs)) ⟨rI,?_⟩);refine aS 7 rfl b65 (ku eG) ?_;refine aS 8 rfl b17 (ku y70) ?_;refine dP (fu (b65,b17) hM sS rI)
  refine dH 1 rfl (sV (fun hs=>qJ _ _ s0 eG uf (bf hs)) ⟨rI,?_⟩);obtain⟨A8,aay,hM⟩:=bind_some hM;refine dH 3 rfl (sV (fun hs=>Cv _ _ t0 A8 aay (bf hs)) ⟨rI,?_⟩);obtain⟨Pb,aaz,hM⟩:=bind_some hM;refine dH 4 rfl (sV (fun hs=>qJ _ _ A8 Pb aaz (bf hs)) ⟨rI,?_⟩);refine aS 7 rfl b62 (ku eG) ?_;refine aS 8 rfl b17 (ku Pb) ?_;refine dP (fu (b62,b17) hM sS rI)
 clear hM;rintro⟨xL,xM,yj,yt⟩ ⟨DV,DW⟩ hM;dsimp only[Xm] at hM ⊢;refine aK fun K2 hK2=>?_;refine sr ?_;refine oe (av 3) ?_;refine oe (aF (b:=b1)) ?_;refine mF (fun w hm=>Kn.len (kG l0.Links ay.2.2.2) hm) fun hl4=>?_;refine oe bL ?_;refine om ?_;refine on ?_;refine bH ?_;refine lq hM (fun BI=>[(8,eP DV),(9,eP DW),(20,eS ay.2.2.2 l0.Links),(21,eI (l0.Links.length:Int)),(22,eI (BI:Int))]) (fun BI=>[own DV 256 [vI xL,vI xM],own DW 256 [vI yj,vI yt],iL l0.Links ay.2.2.2]) sS rI ?_;clear hM;rintro bA BI hM iG hL1;dsimp only[TI] at hM ⊢;refine sr ?_;refine oe bY ?_;refine on ?_;refine aK fun K5 dI=>?_;refine cc rfl hM (fun jL hM=>?_) (fun jL hM=>?_)
 ·have alW:=of_decide_eq_true jL;refine aX (dI _ _ ?_);clear dI;refine aK fun K6 dn=>?_;refine bH ?_;refine sr ?_;obtain⟨x6,hx7,hM⟩:=bind_some hM;refine oe (bD (xs:=l0.Links) 6 (kG l0.Links ay.2.2.2) (iS hx7)) ?_;refine oe (fM (m:=6) (i:=(BI:Int)) (xs:=l0.Links) (y:=x6) (l:=(sN x6)) 0 (kG l0.Links ay.2.2.2) (fun _=>hx7)) ?_;refine oA rfl fun b8=>?_;refine oS b8 (sN x6) ?_;refine on ?_;refine jn (Nat×Nat) y (k:=aci x6 xL xM yj yt bA BI) (fun _ (LY,LZ)=>[(8,eP DV),(9,eP DW),(11,eP b8),(12,eP LY),(13,eP LZ),(20,eS ay.2.2.2 l0.Links),(21,eI (l0.Links.length:Int)),(22,eI (BI:Int))]) (fun _ (LY,LZ)=>[own DV 256 [vI xL,vI xM],own DW 256 [vI yj,vI yt],own b8 183 (sN x6),own LY 256 [vI x6.A,vI x6.dN],own LZ 256 [vI x6.B,vI x6.dV],iL l0.Links ay.2.2.2]) ?_ ?_
  · intro Gh hJ3;refine gy _ (List.Sublist.refl _) ?_;refine ak 0 rfl (av 0) ?_;refine ak 1 rfl (aF (b:=b8)) ?_;refine ak 2 rfl (av 1) ?_;refine ak 3 rfl (aF (b:=b8)) ?_;refine ak 4 rfl (gI [vI x6.A,vI x6.dN]) ?_;refine ak 5 rfl (av 2) ?_;refine ak 6 rfl (aF (b:=b8)) ?_;refine ak 7 rfl (av 3) ?_;refine ak 8 rfl (aF (b:=b8)) ?_;refine ak 9 rfl (gI [vI x6.B,vI x6.dV]) ?_;refine mh 10 11 (⟨_,rfl,rfl,iw rfl (k:=fun b10=>⟨rI,?_⟩)⟩) (⟨_,rfl,rfl,iw rfl (k:=fun b11=>⟨rI,?_⟩)⟩)
    ·refine aA 11 rfl rfl fun b12=>?_;refine aS 12 rfl b10 [vI x6.A,vI x6.dN] ?_;refine aS 13 rfl b12 [vI x6.B,vI x6.dV] ?_;refine dP (hJ3 (b10,b12) hM sS rI)
    refine aA 10 rfl rfl fun b13=>?_;refine aS 12 rfl b13 [vI x6.A,vI x6.dN] ?_;refine aS 13 rfl b11 [vI x6.B,vI x6.dV] ?_;refine dP (hJ3 (b13,b11) hM sS rI)
  clear hM;rintro⟨⟩ ⟨LY,LZ⟩ hM;dsimp only[aci] at hM ⊢;refine sr ?_;refine oe (bR (b:=LY)) ?_;refine oe (bR (b:=DV)) ?_;refine oe (Mf [.int .i64,.int .i64] (decide ((mK.mk x6.A x6.dN)=(mK.mk xL xM))) (UO _ _)) ?_;refine om ?_;refine aD rfl (bR (b:=LZ)) ?_;refine aD rfl (bR (b:=DW)) ?_;refine aD rfl (Mf [.int .i64,.int .i64] (decide ((mK.mk x6.B x6.dV)=(mK.mk yj yt))) (UO _ _)) ?_;refine oe dG ?_;refine om ?_;refine aD rfl (bR (b:=LY)) ?_;refine aD rfl (bR (b:=DW)) ?_;refine aD rfl (Mf [.int .i64,.int .i64] (decide ((mK.mk x6.A x6.dN)=(mK.mk yj yt))) (UO _ _)) ?_;refine aD rfl aL ?_;refine aD rfl (bR (b:=LZ)) ?_;refine aD rfl (bR (b:=DV)) ?_;refine aD rfl (Mf [.int .i64,.int .i64] (decide ((mK.mk x6.B x6.dV)=(mK.mk xL xM))) (UO _ _)) ?_;refine aD rfl dG ?_;refine oe dQ ?_;refine on ?_;refine cc rfl hM (fun qV hM=>?_) (fun qV hM=>?_)
  · refine sr ?_;refine oe (av 4) ?_;refine oe (aF (b:=b8)) ?_;refine oa ?_;refine aT ?_;exact aY (zk hM)
  refine aX (dn _ _ ?_);clear dn;refine bB ?_;refine oe (eH (hr:=fun _=>by unfold gF;omega)) ?_;refine om ?_;refine bC (hL1 hM sS rI)
 refine dK (hK2 _ _ ?_);clear hK2;dsimp only[ahr] at hM;refine sr ?_;refine oa ?_;refine aT ?_;exact aY (zk hM)
def ach(Eh:List Int):Unit→Option ((List Int)×Int):=fun _=>
 some (Eh,0)
def TF(zU:List Step)(r0:aO)(l0:Layout)(jX:((List Int)×Nat)→Option ((List Int)×Int)):((List Int)×Nat)→Option ((List Int)×Int):=fun (Eh,EG)=>
 if decide ((EG:Int)<(zU.length:Int)) then
  ((idx zU (EG:Int)).bind fun x41=>
  (idx r0.Steps (EG:Int)).bind fun UA=>
  (TJ l0 UA x41).bind fun tC=>
  if (!tC.2) then
   (some (([]:List Int),11))
  else
   (bq (decide ((Eh.length+([tC.1]:List Int).length)*8≤140737488355328))<|
   jX ((Eh++([tC.1]:List Int)),EG+1)))
 else
  (ach Eh ())
def Xl(r0:aO)(l0:Layout):Unit→Option ((List Int)×Int):=fun _=>
 (sub r0.Steps 1 (r0.Steps.length:Int)).bind fun zU=>
 iter (TF zU r0 l0) FUEL (([]:List Int),0)
def TD(r0:aO)(l0:Layout)(fE:((List Bool)×Nat)→Option ((List Int)×Int)):((List Bool)×Nat)→Option ((List Int)×Int):=fun (Bq,IX)=>
 if decide ((IX:Int)<(r0.Steps.length:Int)) then
  ((idx r0.Steps (IX:Int)).bind fun x25=>
  (idx Bq x25.Section).bind fun x28=>
  if x28 then
   (some (([]:List Int),5))
  else
   ((idx Bq x25.Section).bind fun x32=>
   fE ((Bq.set x25.Section.toNat true),IX+1)))
 else
  (Xl r0 l0 ())
def Xk(l0:Layout)(r0:aO):Unit→Option ((List Int)×Int):=fun _=>
 (mk (α:=Bool) false (l0.Sections.length:Int)).bind fun m20=>
 iter (TD r0 l0) FUEL (m20,0)
def TB(r0:aO)(l0:Layout)(bA:Nat→Option ((List Int)×Int)):Nat→Option ((List Int)×Int):=fun IU=>
 if decide ((IU:Int)<(r0.Steps.length:Int)) then
  ((idx r0.Steps (IU:Int)).bind fun l7=>
  (Xj l0 l7).bind fun qw=>
  if (!qw) then
   (some (([]:List Int),4))
  else
   (bA (IU+1)))
 else
  (Xk l0 r0 ())
def TG(r0:aO)(l0:Layout):Bool→Option ((List Int)×Int):=fun Ug=>
 if Ug then
  (some (([]:List Int),4))
 else
  (iter (TB r0 l0) FUEL 0)
def Ox(r0:aO)(l0:Layout):Bool→Option ((List Int)×Int):=fun Uf=>
 if Uf then
  (some (([]:List Int),7))
 else
  (if decide (r0.Overlap<0) then
   (TG r0 l0 (decide (r0.Overlap<0)))
  else
   (bq (bJ ((r0.Steps.length:Int)-r0.Overlap))<|
   TG r0 l0 (decide (((r0.Steps.length:Int)-r0.Overlap)<2))))
def TH(l0:Layout)(r0:aO):Option ((List Int)×Int):=
 (Ri l0).bind fun y3=>
 if decide (y3≠0) then
  (some (([]:List Int),1))
 else
  (if decide (24<(r0.Steps.length:Int)) then
   (Ox r0 l0 (decide (24<(r0.Steps.length:Int))))
  else
   (Ox r0 l0 (decide (2<r0.Overlap))))
theorem aqN(S:bO)(w:World)(l0:Layout)(ay:aC.R Layout)(r0:aO)(bS:aC.R aO)(y:(List Int)×Int)(hM:TH l0 r0=some y)(hS:sB S w)(dZ:aC.ok S w ay l0)(qg:aC.ok S w bS r0):
   Calls Tryz.prog 137 #[.agg (jN l0 ay),.agg (xH r0 bS)] w (Post (β:=(aC.R (List Int))) S [] (fun g=> .tuple #[sL g y.1,vI y.2]) (fun g=>[aj 3 g y.1]) w):=by
 refine cu (args:=[_,_]) Tryz.func137 rfl ((pre_nil hS).start |>.lY dZ|>.gW (α:=List Step) (r:=bS) (x:=r0.Steps) qg) rfl ?_;unfold TH at hM;refine sr ?_;refine oB (cK l0 ay) fun b1=>?_;refine oB (jC r0 bS) fun b2=>?_;refine oa ?_;refine aT ?_;refine aK fun K2 hK2=>?_;refine bH ?_;refine sr ?_;refine oe (bR (b:=b1)) ?_;obtain⟨y3,hy4,hM⟩:=bind_some hM;refine cv (fun hs=>afr _ _ l0 ay y3 hy4 (bf hs) ⟨(kM hs),(kM hs),(kM hs),(kM hs)⟩) ?_;refine oe gZ ?_;refine aT ?_;refine cc rfl hM (fun jL hM=>?_) (fun jL hM=>?_)
 ·refine sr ?_;refine oa ?_;refine aT ?_;refine cZ (fun w hm=>hm.dR (α:=Int) 3 (fun _=>())) ?_;obtain rfl:=some_inj hM;refine aY (uw (fun w hm=>fU Bw hm rfl))
 refine jm y (k:=Ox r0 l0) (fun Uf=>[(2,eP b1),(3,eP b2),(20,.v (.bool Uf))]) (fun Uf=>[iL l0.aU ay.1,iL l0.bG ay.2.1,iL l0.Sections ay.2.2.1,iL l0.Links ay.2.2.2,own b1 26 (cK l0 ay),iL r0.Steps bS,own b2 90 (jC r0 bS)]) ?_ ?_
 ·intro zB fu;refine sr ?_;refine oe (av 0) ?_;refine oe (aF (b:=b2)) ?_;refine oe bL ?_;refine oe gM ?_;refine aT ?_;refine cc rfl hM (fun Qy hM=>?_) (fun Qy hM=>?_)
  · refine aX (fu hM sS rI)
  refine bB ?_;refine oe (av 1) ?_;refine oe (aF (b:=b2)) ?_;refine oe gM ?_;refine oa ?_;refine bC (fu hM sS rI)
 clear hM;rintro Uf hM;dsimp only[Ox] at hM ⊢;refine cc rfl hM (fun oJ hM=>?_) (fun oJ hM=>?_)
 ·refine sr ?_;refine oa ?_;refine aT ?_;refine cZ (fun w hm=>hm.dR (α:=Int) 3 (fun _=>())) ?_;obtain rfl:=some_inj hM;refine aY (uw (fun w hm=>fU Bw hm rfl))
 refine jm y (k:=TG r0 l0) (fun Ug=>[(2,eP b1),(3,eP b2),(28,.v (.bool Ug))]) (fun Ug=>[iL l0.aU ay.1,iL l0.bG ay.2.1,iL l0.Sections ay.2.2.1,iL l0.Links ay.2.2.2,own b1 26 (cK l0 ay),iL r0.Steps bS,own b2 90 (jC r0 bS)]) ?_ ?_
 ·intro zC hJ2;refine sr ?_;refine oe (av 1) ?_;refine oe (aF (b:=b2)) ?_;refine oe bY ?_;refine aT ?_;refine cc rfl hM (fun alU hM=>?_) (fun alU hM=>?_)
  · refine aX (hJ2 hM sS rI)
  refine bB ?_;refine oe (av 0) ?_;refine oe (aF (b:=b2)) ?_;refine oe bL ?_;refine oe (av 1) ?_;refine oe (aF (b:=b2)) ?_;refine oN hM fun hM=>?_;refine oe bY ?_;refine oa ?_;refine bC (hJ2 hM sS rI)
 clear hM;rintro Ug hM;dsimp only[TG] at hM ⊢;refine cc rfl hM (fun qV hM=>?_) (fun qV hM=>?_)
 ·refine sr ?_;refine oa ?_;refine aT ?_;refine cZ (fun w hm=>hm.dR (α:=Int) 3 (fun _=>())) ?_;obtain rfl:=some_inj hM;refine aY (uw (fun w hm=>fU Bw hm rfl))
 refine aX (hK2 _ _ ?_);clear hK2;refine aK fun K7 eu=>?_;refine sr ?_;refine oe (av 0) ?_;refine oe (aF (b:=b2)) ?_;refine mF (fun w hm=>Kn.len (kG r0.Steps bS) hm) fun amq=>?_;refine oe bL ?_;refine om ?_;refine on ?_;refine bH ?_;refine lq hM (fun IU=>[(2,eP b1),(3,eP b2),(40,eS bS r0.Steps),(41,eI (r0.Steps.length:Int)),(42,eI (IU:Int))]) (fun IU=>[iL l0.aU ay.1,iL l0.bG ay.2.1,iL l0.Sections ay.2.2.1,iL l0.Links ay.2.2.2,own b1 26 (cK l0 ay),iL r0.Steps bS,own b2 90 (jC r0 bS)]) sS rI ?_;clear hM;rintro bA IU hM iG hL1;dsimp only[TB] at hM ⊢;refine sr ?_;refine oe bY ?_;refine on ?_;refine aK fun tK gU=>?_;refine cc rfl hM (fun qD hM=>?_) (fun qD hM=>?_)
 ·have asa:=of_decide_eq_true qD;refine aX (gU _ _ ?_);clear gU;refine aK fun rQ gG=>?_;refine bH ?_;refine sr ?_;obtain⟨l7,uT,hM⟩:=bind_some hM;refine oe (bD (xs:=r0.Steps) 2 (kG r0.Steps bS) (iS uT)) ?_;refine oe (fM (m:=2) (i:=(IU:Int)) (xs:=r0.Steps) (y:=l7) (l:=(o9 l7)) 0 (kG r0.Steps bS) (fun _=>uT)) ?_;refine oA rfl fun b15=>?_;refine oS b15 (o9 l7) ?_;refine on ?_;refine sr ?_;refine oe (bR (b:=b1)) ?_;refine oe (bR (b:=b15)) ?_;obtain⟨qw,Fw,hM⟩:=bind_some hM;refine cv (fun hs=>aqL _ _ l0 ay l7 qw Fw (bf hs) ⟨(kM hs),(kM hs),(kM hs),(kM hs)⟩) ?_;refine oe fq ?_;refine on ?_;refine cc rfl hM (fun hc18 hM=>?_) (fun hc18 hM=>?_)
  · refine sr ?_;refine oa ?_;refine aT ?_;refine cZ (fun w hm=>hm.dR (α:=Int) 3 (fun _=>())) ?_;obtain rfl:=some_inj hM;refine aY (uw (fun w hm=>fU Bw hm rfl))
  refine aX (gG _ _ ?_);clear gG;refine bB ?_;refine oe (eH (hr:=fun _=>by unfold gF;omega)) ?_;refine om ?_;refine bC (hL1 hM sS rI)
 refine dK (eu _ _ ?_);clear eu;dsimp only[Xk] at hM;refine sr ?_;refine oe (av 2) ?_;refine oe (aF (b:=b1)) ?_;refine oe bL ?_;obtain⟨m20,amt,hM⟩:=bind_some hM;refine bM (ahX (α:=Bool) (e:=4) false () amt (fun _ _=>trivial) (fun Ak asJ=>?_));refine aT ?_;refine aK fun Ba kX=>?_;refine sr ?_;refine oe (av 0) ?_;refine oe (aF (b:=b2)) ?_;refine mF (fun w hm=>Kn.len (kG r0.Steps bS) hm) fun asA=>?_;refine oe bL ?_;refine om ?_;refine on ?_;refine bH ?_;refine lq hM (fun (Bq,IX)=>[(2,eP b1),(3,eP b2),(8,eS Ak Bq),(56,eS bS r0.Steps),(57,eI (r0.Steps.length:Int)),(58,eI (IX:Int))]) (fun (Bq,IX)=>[iL l0.aU ay.1,iL l0.bG ay.2.1,iL l0.Sections ay.2.2.1,iL l0.Links ay.2.2.2,own b1 26 (cK l0 ay),iL r0.Steps bS,own b2 90 (jC r0 bS),aj 4 Ak Bq]) sS rI ?_
 clear hM;rintro fE ⟨Bq,IX⟩ hM wH hL2;dsimp only[TD] at hM ⊢;refine sr ?_;refine oe bY ?_;refine on ?_;refine aK fun EN nX=>?_;refine cc rfl hM (fun hc24 hM=>?_) (fun hc24 hM=>?_)
 ·have asg:=of_decide_eq_true hc24;refine aX (nX _ _ ?_);clear nX;refine aK fun I9 qR=>?_;refine bH ?_;refine sr ?_;obtain⟨x25,yQ,hM⟩:=bind_some hM;refine oe (bD (xs:=r0.Steps) 2 (kG r0.Steps bS) (iS yQ)) ?_;refine oe (fM (m:=2) (i:=(IX:Int)) (xs:=r0.Steps) (y:=x25) (l:=(o9 x25)) 0 (kG r0.Steps bS) (fun _=>yQ)) ?_;refine oA rfl fun LU=>?_;refine oS LU (o9 x25) ?_;refine on ?_;refine aK fun Ja qU=>?_;refine aW ?_;refine oe (av 0) ?_;refine oe (aF (b:=LU)) ?_;obtain⟨x28,hx29,hM⟩:=bind_some hM;refine oe (bD (xs:=Bq) 1 (Kn.aj (e:=4) (r:=Ak) hA) (iS hx29)) ?_;refine oe (bT (i:=x25.Section) (xs:=Bq) (y:=x28) 0 (Kn.aj (e:=4) (r:=Ak) hA) (fun _=>hx29)) ?_;refine on ?_;refine cc rfl hM (fun D8 hM=>?_) (fun D8 hM=>?_)
  · refine sr ?_;refine oa ?_;refine aT ?_;refine cZ (fun w hm=>hm.dR (α:=Int) 3 (fun _=>())) ?_;obtain rfl:=some_inj hM;refine aY (uw (fun w hm=>fU Bw hm rfl))
  refine aX (qU _ _ ?_);clear qU;refine bB ?_;refine om ?_;refine oe (av 0) ?_;refine oe (aF (b:=LU)) ?_;obtain⟨x32,JE,hM⟩:=bind_some hM;refine oe (bD (xs:=Bq) 1 (Kn.aj (e:=4) (r:=Ak) hA) (iS JE)) ?_;refine bM (CV (r:=Ak) (i:=x25.Section) (xs:=Bq) (u:=x32) (vs:=[.bool true]) 0 true JE rfl (fun _ _ h=>h) uA ?_);have hx34:=lW (u:=true) JE;refine bC (qR _ _ ?_);clear qR;refine bB ?_;refine oe (eH (hr:=fun _=>by unfold gF;omega)) ?_;refine om ?_;refine bC (hL2 hM ⟨rfl,rfl,(by simp only[List.length_set,eS,sL];rfl),rfl,rfl,rfl,trivial⟩ rI)
 refine dK (kX _ _ ?_);clear kX;dsimp only[Xl] at hM;refine bI ?_;refine aK fun LB sJ=>?_;refine sr ?_;refine oe (av 0) ?_;refine oe (aF (b:=b2)) ?_;obtain⟨zU,ams,hM⟩:=bind_some hM;refine bM (La (r:=bS) (xs:=r0.Steps) (ol:=some (.i64,1)) (oh:=none) (Sk.dw (α:=List Step) (r:=bS) (x:=r0.Steps) hA) ams (fun Hz=>?_));refine mF (fun w hm=>Kn.len (kG zU Hz) hm) fun asC=>?_;refine oe bL ?_;refine om ?_;refine on ?_;refine bH ?_;refine cZ (fun w hm=>hm.dR (α:=Int) 3 (fun _=>())) ?_;refine lp Bw hM (fun (Eh,EG) Ou=>[(2,eP b1),(3,eP b2),(11,eS Ou Eh),(74,eS Hz zU),(75,eI (zU.length:Int)),(76,eI (EG:Int))]) (fun (Eh,EG) Ou=>[iL l0.aU ay.1,iL l0.bG ay.2.1,iL l0.Sections ay.2.2.1,iL l0.Links ay.2.2.2,own b1 26 (cK l0 ay),iL r0.Steps bS,own b2 90 (jC r0 bS),aj 3 Ou Eh,iL zU Hz]) sS rI ?_
 clear hM;rintro jX ⟨Eh,EG⟩ Ou hM Gi hL3;dsimp only[TF] at hM ⊢;refine sr ?_;refine oe bY ?_;refine on ?_;refine aK fun LC sK=>?_;refine cc rfl hM (fun aeB hM=>?_) (fun aeB hM=>?_)
 ·have asj:=of_decide_eq_true aeB;refine aX (sK _ _ ?_);clear sK;refine aK fun UJ yO=>?_;refine bH ?_;refine aW ?_;obtain⟨x41,ae1,hM⟩:=bind_some hM;refine oe (bD (xs:=zU) 2 (kG zU Hz) (iS ae1)) ?_;refine oe (fM (m:=2) (i:=(EG:Int)) (xs:=zU) (y:=x41) (l:=(o9 x41)) 0 (kG zU Hz) (fun _=>ae1)) ?_;refine oA rfl fun b43=>?_;refine oa ?_;refine oS b43 (o9 x41) ?_;refine on ?_;refine aK fun K32 GK=>?_;refine gy _ (List.Sublist.refl _) ?_;refine ak 0 rfl (bR (b:=b1)) ?_;refine ak 1 rfl (av 0) ?_;refine ak 2 rfl (aF (b:=b2)) ?_;refine ak 3 rfl aL ?_;obtain⟨UA,QG,hM⟩:=bind_some hM;refine ak 4 rfl (bD (xs:=r0.Steps) 2 (kG r0.Steps bS) (iS QG)) ?_;refine ak 5 rfl (fM (m:=2) (i:=(EG:Int)) (xs:=r0.Steps) (y:=UA) (l:=(o9 UA)) 0 (kG r0.Steps bS) (fun _=>QG)) ?_;refine ak 6 rfl (bR (b:=b43)) ?_;obtain⟨tC,hy47,hM⟩:=bind_some hM;refine dH 7 rfl (sV (fun hs=>aqO _ _ l0 ay UA x41 tC hy47 (bf hs) ⟨(kM hs),(kM hs),(kM hs),(kM hs)⟩) ⟨rI,?_⟩)
  refine ak 8 rfl aL ?_;refine ak 9 rfl (jv (vs:=[vI tC.1,.bool tC.2])) ?_;refine ak 10 rfl (jv (vs:=[vI tC.1,.bool tC.2])) ?_;refine ak 11 rfl dD ?_;refine ak 12 rfl dD ?_;refine dP (GK _ _ ?_);clear GK;refine aK fun UL wN=>?_;refine aW ?_;refine oe fq ?_;refine on ?_;refine cc rfl hM (fun ZI hM=>?_) (fun ZI hM=>?_)
  · refine sr ?_;refine oa ?_;refine aT ?_;refine cZ (fun w hm=>hm.dR (α:=Int) 3 (fun _=>())) ?_;obtain rfl:=some_inj hM;refine aY (uw (fun w hm=>fU Bw hm rfl))
  refine aX (wN _ _ ?_);clear wN;refine bB ?_;refine om ?_;refine om ?_;refine bM (fD (α:=Int) 3 (fun _=>()) ([tC.1]:List Int) oF (fun Nz=>?_));obtain⟨aly,hM⟩:=bW hM;refine bM (jc (r:=Ou) (r2:=Nz) uR (Kn.aj (e:=3) (r:=Nz) hA) oF (of_decide_eq_true aly) (fun r51=>?_));refine oa ?_;refine bC (yO _ _ ?_);clear yO;refine bB ?_;refine oe (eH (hr:=fun _=>by unfold gF;omega)) ?_;refine om ?_;refine bC (hL3 r51 hM sS rI)
 refine dK (sJ _ _ ?_);clear sJ;dsimp only[ach] at hM;refine aW ?_;refine oa ?_;refine aT ?_;obtain rfl:=some_inj hM;refine aY (uw (fun w hm=>fU Ou hm rfl))
def Ov(l0:Layout)(r0:aO):Option Int:=
 (TH l0 r0).bind fun y3=>
 some y3.2
theorem ahq(S:bO)(w:World)(l0:Layout)(ay:aC.R Layout)(r0:aO)(bS:aC.R aO)(y:Int)(hM:Ov l0 r0=some y)(hS:sB S w)(dZ:aC.ok S w ay l0)(qg:aC.ok S w bS r0):
  Calls Tryz.prog 82 #[.agg (jN l0 ay),.agg (xH r0 bS)] w (dz w (vI y)):=by
 refine cu (args:=[_,_]) Tryz.func82 rfl ((pre_nil hS).start |>.lY dZ|>.gW (α:=List Step) (r:=bS) (x:=r0.Steps) qg) rfl ?_;unfold Ov at hM;refine sr ?_;refine oB (cK l0 ay) fun b1=>?_;refine oB (jC r0 bS) fun b2=>?_;refine aT ?_;refine sr ?_;refine oe (bR (b:=b1)) ?_;refine oe (bR (b:=b2)) ?_;obtain⟨y3,hy4,hM⟩:=bind_some hM;refine bM (fJ jM.nil (fun S w hs hP=>aqN _ w l0 ay r0 bS y3 hy4 (bf hs) ⟨(kM hs),(kM hs),(kM hs),(kM hs)⟩ (kM hs)) gq (fun r5=>?_));dsimp only[cA,nA];refine om ?_;refine oe (jv (vs:=[sL r5 y3.1,vI y3.2])) ?_;refine oe (jv (vs:=[sL r5 y3.1,vI y3.2])) ?_;refine oa ?_
 refine aT ?_;refine aW ?_;refine aT ?_;exact aY (bQ hM)
end Go.Proofs.YtcalibhfgdncaaaGreatDoor

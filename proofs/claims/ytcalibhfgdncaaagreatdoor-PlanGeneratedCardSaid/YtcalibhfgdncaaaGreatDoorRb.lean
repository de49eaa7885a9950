/- Models of functions, and that the code computes them. -/
import Derived.Test.YtcalibhfgdncaaaGreatDoorR0
set_option linter.all false
namespace Go.Proofs.YtcalibhfgdncaaaGreatDoor
open Go.Dc Go.RowKit
set_option maxRecDepth 10000
def NU(c0:Int):Option Bool:=
 some ((decide (97≤c0)&&decide (c0≤122))||(decide (65≤c0)&&decide (c0≤90)))
theorem ag9(S:bO)(w:World)(c0:Int)(y:Bool)(hM:NU c0=some y)(hS:sB S w):
  Calls Tryz.prog 165 #[.int .u8 c0] w (dz w (.bool y)):=by
 refine cu (args:=[_]) Tryz.func165 rfl ((pre_nil hS).start) rfl ?_;unfold NU at hM;refine bI ?_;refine aW ?_;refine oe jK ?_;refine om ?_;refine aD rfl aL ?_;refine aD rfl oI ?_;refine oe dG ?_;refine om ?_;refine aD rfl aL ?_;refine aD rfl jK ?_;refine aD rfl aL ?_;refine aD rfl aL ?_;refine aD rfl oI ?_;refine aD rfl dG ?_;refine oe dQ ?_;refine aT ?_;exact aY (bQ hM)
def ag0:Unit→Option Bool:=fun _=>
 some true
def Sv(s0:Str)(bA:Nat→Option Bool):Nat→Option Bool:=fun bg=>
 if decide ((bg:Int)<(s0.l.length:Int)) then
  ((pK s0 (bg:Int)).bind fun c7=>
  (NU c7).bind fun y9=>
  (fK (!y9) 0 (pK s0 (bg:Int))).bind fun c11=>
  (fK (!y9) default (SA c11)).bind fun y13=>
  (fK ((!y9)&&(!y13)) 0 (pK s0 (bg:Int))).bind fun c15=>
  if (((!y9)&&(!y13))&&decide (c15≠95)) then
   (some false)
  else
   (bq (bJ ((bg:Int)+1))<|
   bA (bg+1)))
 else
  (ag0 ())
def Kz(s0:Str):Option Bool:=
 (fK (!(decide ((s0.l.length:Int)<1)||decide (12<(s0.l.length:Int)))) 0 (pK s0 0)).bind fun c1=>
 (fK (!(decide ((s0.l.length:Int)<1)||decide (12<(s0.l.length:Int)))) default (NU c1)).bind fun y3=>
 if ((decide ((s0.l.length:Int)<1)||decide (12<(s0.l.length:Int)))||(!y3)) then
  (some false)
 else
  (iter (Sv s0) FUEL 1)
theorem abL(S:bO)(w:World)(s0:Str)(y:Bool)(hM:Kz s0=some y)(hS:sB S w):
   Calls Tryz.prog 117 #[.string s0.ba] w (dz w (.bool y)):=by
 refine cu (args:=[_]) Tryz.func117 rfl ((pre_nil hS).start) rfl ?_;unfold Kz at hM;refine bI ?_;refine aK fun K2 hK2=>?_;refine aW ?_;refine oe vO ?_;refine oe bY ?_;refine om ?_;refine aD rfl aL ?_;refine aD rfl vO ?_;refine aD rfl gM ?_;refine oe dQ ?_;refine om ?_;refine aD rfl aL ?_;obtain⟨c1,QA,hM⟩:=bind_some hM;refine aD rfl (tT (eF QA)) ?_;obtain⟨y3,hy4,hM⟩:=bind_some hM;refine cg rfl (fun hg hs=>ag9 _ _ c1 y3 (eF hy4 hg) (bf hs)) ?_;refine aD rfl fq ?_;refine oe dQ ?_;refine on ?_;refine cc rfl hM (fun jL hM=>?_) (fun jL hM=>?_)
 ·refine bI ?_;exact aY (bQ hM)
 refine aX (hK2 _ _ ?_);clear hK2;refine aK fun K5 dI=>?_;refine bI ?_;refine bH ?_;refine lq hM (fun bg=>[(0,.v (.string s0.ba)),(3,eI (bg:Int))]) (fun bg=>[]) sS rI ?_;clear hM;rintro bA bg hM iG hL1;dsimp only[Sv] at hM ⊢;refine aK fun K7 eu=>?_;refine aW ?_;refine om ?_;refine oe vO ?_;refine oe bY ?_;refine on ?_;refine cc rfl hM (fun hc6 hM=>?_) (fun hc6 hM=>?_)
 ·refine aX (eu _ _ ?_);clear eu;refine aK fun K9 gB=>?_;refine bH ?_;refine aW ?_;refine om ?_;obtain⟨c7,ame,hM⟩:=bind_some hM;refine oe (tT (fun _=>ame)) ?_;obtain⟨y9,zR,hM⟩:=bind_some hM;refine cv (fun hs=>ag9 _ _ c7 y9 zR (bf hs)) ?_;refine oe fq ?_;refine om ?_;refine aD rfl aL ?_;refine aD rfl aL ?_;obtain⟨c11,Qz,hM⟩:=bind_some hM;refine aD rfl (tT (eF Qz)) ?_;obtain⟨y13,xS,hM⟩:=bind_some hM;refine cg rfl (fun hg hs=>ag7 _ _ c11 y13 (eF xS hg) (bf hs)) ?_;refine aD rfl fq ?_;refine oe dG ?_;refine om ?_;refine aD rfl aL ?_;refine aD rfl aL ?_;obtain⟨c15,al7,hM⟩:=bind_some hM;refine aD rfl (tT (eF al7)) ?_;refine aD rfl gZ ?_;refine oe dG ?_;refine on ?_;refine cc rfl hM (fun hc17 hM=>?_) (fun hc17 hM=>?_)
  · refine bI ?_;exact aY (bQ hM)
  refine aX (gB _ _ ?_);clear gB;refine bB ?_;refine om ?_;refine oP hM fun hM=>?_;refine oa ?_;refine bC (hL1 hM sS rI)
 refine dK (dI _ _ ?_);clear dI;dsimp only[ag0] at hM;refine bI ?_;exact aY (bQ hM)
def aha:Unit→Option Int:=fun _=>
 some 0
def SG(i0:Int)(l0:List Str)(bA:Nat→Option Int):Nat→Option Int:=fun kg=>
 if decide ((kg:Int)<i0) then
  ((idx l0 (kg:Int)).bind fun x7=>
  (idx l0 i0).bind fun x9=>
  if decide (x7=x9) then
   (some 5)
  else
   (bq (bJ ((kg:Int)+1))<|
   bA (kg+1)))
 else
  (aha ())
def H8(l0:List Str)(i0:Int):Option Int:=
 (idx l0 i0).bind fun x1=>
 (Kz x1).bind fun y3=>
 if (!y3) then
  (some 3)
 else
  (iter (SG i0 l0) FUEL 0)
theorem abV(S:bO)(w:World)(l0:List Str)(ay:aC.R (List Str))(i0:Int)(y:Int)(hM:H8 l0 i0=some y)(hS:sB S w)(dZ:aC.ok S w ay l0):
   Calls Tryz.prog 51 #[sL ay l0,vI i0] w (dz w (vI y)):=by
 refine cu (args:=[_,_]) Tryz.func51 rfl ((pre_nil hS).start |>.gW (α:=List Str) (r:=ay) (x:=l0) dZ) rfl ?_;unfold H8 at hM;refine bI ?_;refine aK fun K2 hK2=>?_;refine aW ?_;refine om ?_;obtain⟨x1,hx2,hM⟩:=bind_some hM;refine oe (bD (xs:=l0) 1 (kG l0 ay) (iS hx2)) ?_;refine oe (bT (i:=i0) (xs:=l0) (y:=x1) 0 (kG l0 ay) (fun _=>hx2)) ?_;obtain⟨y3,hy4,hM⟩:=bind_some hM;refine cv (fun hs=>abL _ _ x1 y3 hy4 (bf hs)) ?_;refine oe fq ?_;refine on ?_;refine cc rfl hM (fun jL hM=>?_) (fun jL hM=>?_)
 ·refine bI ?_;exact aY (bQ hM)
 refine aX (hK2 _ _ ?_);clear hK2;refine aK fun K5 dI=>?_;refine bI ?_;refine bH ?_;refine lq hM (fun kg=>[(0,eS ay l0),(1,eI i0),(5,eI (kg:Int))]) (fun kg=>[iL l0 ay]) sS rI ?_;clear hM;rintro bA kg hM iG hL1;dsimp only[SG] at hM ⊢;refine aK fun K7 eu=>?_;refine aW ?_;refine om ?_;refine oe bY ?_;refine on ?_;refine cc rfl hM (fun hc6 hM=>?_) (fun hc6 hM=>?_)
 ·refine aX (eu _ _ ?_);clear eu;refine aK fun K9 gB=>?_;refine bH ?_;refine aK fun tK gU=>?_;refine gy _ (List.Sublist.refl _) ?_;refine ak 0 rfl aL ?_;refine ak 1 rfl aL ?_;obtain⟨x7,yR,hM⟩:=bind_some hM;refine ak 2 rfl (bD (xs:=l0) 1 (kG l0 ay) (iS yR)) ?_;refine ak 3 rfl (bT (i:=(kg:Int)) (xs:=l0) (y:=x7) 0 (kG l0 ay) (fun _=>yR)) ?_;refine ak 4 rfl aL ?_;refine ak 5 rfl aL ?_;obtain⟨x9,ni,hM⟩:=bind_some hM;refine ak 6 rfl (bD (xs:=l0) 1 (kG l0 ay) (iS ni)) ?_;refine ak 7 rfl (bT (i:=i0) (xs:=l0) (y:=x9) 0 (kG l0 ay) (fun _=>ni)) ?_;refine ak 8 rfl xJ ?_;refine dP (gU _ _ ?_);clear gU;refine cc rfl hM (fun zL hM=>?_) (fun zL hM=>?_)
  · refine bI ?_;exact aY (bQ hM)
  refine aX (gB _ _ ?_);clear gB;refine bB ?_;refine om ?_;refine oP hM fun hM=>?_;refine oa ?_;refine bC (hL1 hM sS rI)
 refine dK (dI _ _ ?_);clear dI;dsimp only[aha] at hM;refine bI ?_;exact aY (bQ hM)
def zf(n0:Int)(jS:Int)(hi0:Int):Option Bool:=
 some (decide (jS≤n0)&&decide (n0≤hi0))
theorem Ey(S:bO)(w:World)(n0:Int)(jS:Int)(hi0:Int)(y:Bool)(hM:zf n0 jS hi0=some y)(hS:sB S w):
  Calls Tryz.prog 53 #[vI n0,vI jS,vI hi0] w (dz w (.bool y)):=by
 refine cu (args:=[_,_,_]) Tryz.func53 rfl ((pre_nil hS).start) rfl ?_;unfold zf at hM;refine bI ?_;refine aW ?_;refine om ?_;refine oe jK ?_;refine om ?_;refine aD rfl aL ?_;refine aD rfl aL ?_;refine aD rfl oI ?_;refine oe dG ?_;refine aT ?_;exact aY (bQ hM)
def NT(k0:Link)(x0:pG):Option Bool:=
 some ((decide (k0.A=x0.rX)&&decide (k0.dN=x0.end_))||(decide (k0.B=x0.rX)&&decide (k0.dV=x0.end_)))
theorem abT(S:bO)(w:World)(k0:Link)(x0:pG)(y:Bool)(hM:NT k0 x0=some y)(hS:sB S w):
  Calls Tryz.prog 118 #[.agg (aiO k0),.agg (adz x0)] w (dz w (.bool y)):=by
 refine cu (args:=[_,_]) Tryz.func118 rfl ((pre_nil hS).start) rfl ?_;unfold NT at hM;refine sr ?_;refine oB (sN k0) fun b1=>?_;refine oB (Rt x0) fun b2=>?_;refine aT ?_;refine sr ?_;refine oe (av 0) ?_;refine oe (aF (b:=b1)) ?_;refine oe (av 0) ?_;refine oe (aF (b:=b2)) ?_;refine oe dU ?_;refine om ?_;refine aD rfl (av 1) ?_;refine aD rfl (aF (b:=b1)) ?_;refine aD rfl (av 1) ?_;refine aD rfl (aF (b:=b2)) ?_;refine aD rfl dU ?_;refine oe dG ?_;refine om ?_;refine aD rfl (av 2) ?_;refine aD rfl (aF (b:=b1)) ?_;refine aD rfl (av 0) ?_;refine aD rfl (aF (b:=b2)) ?_;refine aD rfl dU ?_;refine aD rfl aL ?_;refine aD rfl (av 3) ?_;refine aD rfl (aF (b:=b1)) ?_;refine aD rfl (av 1) ?_;refine aD rfl (aF (b:=b2)) ?_;refine aD rfl dU ?_;refine aD rfl dG ?_;refine oe dQ ?_;refine aT ?_;exact aY (bQ hM)
def NR(oL:Nat)(bA:(Int×Int×Int×Int×Int×Int×Int×Nat)→Option Bool):(Int×Int×Int×Int×Int×Int×Int)→Option Bool:=fun (Rp,Rz,RA,RB,RD,RF,RG)=>
 bq (bJ ((oL:Int)+1))<|
 bA (Rp,Rz,RA,RB,RD,RF,RG,oL+1)
def abS(Cx:Int)(x3:Link)(G9:Int)(He:Int):Unit→Option Bool:=fun _=>
 some (decide (Cx=0)||(((decide (Cx=1)&&decide (0≤x3.Point))&&decide (G9=x3.Point))&&decide (He≠x3.Pos)))
def SB(i0:Int)(l0:Layout)(x0:pG)(x3:Link)(bA:(Int×Int×Int×Int×Int×Int×Int×Nat)→Option Bool):(Int×Int×Int×Int×Int×Int×Int×Nat)→Option Bool:=fun (Cx,Rv,Rw,Rx,Ry,G9,He,oL)=>
 if decide ((oL:Int)<i0) then
  ((idx l0.Links (oL:Int)).bind fun x9=>
  (NT x9 x0).bind fun eU=>
  if eU then
   (bq (bJ (Cx+1))<|
   (idx l0.Links (oL:Int)).bind fun qM=>
   NR oL bA ((Cx+1),qM.A,qM.dN,qM.B,qM.dV,qM.Point,qM.Pos))
  else
   (NR oL bA (Cx,Rv,Rw,Rx,Ry,G9,He)))
 else
  (abS Cx x3 G9 He ())
def NS(l0:Layout)(i0:Int)(x0:pG):Option Bool:=
 (idx l0.Links i0).bind fun x3=>
 iter (SB i0 l0 x0 x3) FUEL (0,0,0,0,0,0,0,0)
theorem ag8(S:bO)(w:World)(l0:Layout)(ay:aC.R Layout)(i0:Int)(x0:pG)(y:Bool)(hM:NS l0 i0 x0=some y)(hS:sB S w)(dZ:aC.ok S w ay l0):
   Calls Tryz.prog 119 #[.agg (jN l0 ay),vI i0,.agg (adz x0)] w (dz w (.bool y)):=by
 refine cu (args:=[_,_,_]) Tryz.func119 rfl ((pre_nil hS).start |>.lY dZ) rfl ?_;unfold NS at hM;refine sr ?_;refine oB (cK l0 ay) fun b1=>?_;refine oB (Rt x0) fun b2=>?_;refine aT ?_;refine sr ?_;refine oe (av 3) ?_;refine oe (aF (b:=b1)) ?_;refine om ?_;obtain⟨x3,hx4,hM⟩:=bind_some hM;refine oe (bD (xs:=l0.Links) 6 (kG l0.Links ay.2.2.2) (iS hx4)) ?_;refine oe (fM (m:=6) (i:=i0) (xs:=l0.Links) (y:=x3) (l:=(sN x3)) 0 (kG l0.Links ay.2.2.2) (fun _=>hx4)) ?_;refine oA rfl fun b5=>?_;refine oS b5 (sN x3) ?_
 refine on ?_;refine sr ?_;refine oe (gI [vI 0,vI 0,vI 0,vI 0,vI 0,vI 0]) ?_;refine oA rfl fun b6=>?_;refine oa ?_;refine oS b6 [vI 0,vI 0,vI 0,vI 0,vI 0,vI 0] ?_;refine on ?_;refine aK fun K4 hK4=>?_;refine bI ?_;refine bH ?_;refine lq hM (fun (Cx,Rv,Rw,Rx,Ry,G9,He,oL)=>[(1,eI i0),(3,eP b1),(5,eP b2),(7,eP b5),(8,eI Cx),(9,eP b6),(10,eI (oL:Int))]) (fun (Cx,Rv,Rw,Rx,Ry,G9,He,oL)=>[iL l0.aU ay.1,iL l0.bG ay.2.1,iL l0.Sections ay.2.2.1,iL l0.Links ay.2.2.2,own b1 26 (cK l0 ay),own b2 185 (Rt x0),own b5 183 (sN x3),own b6 183 [vI Rv,vI Rw,vI Rx,vI Ry,vI G9,vI He]]) sS rI ?_
 clear hM;rintro bA ⟨Cx,Rv,Rw,Rx,Ry,G9,He,oL⟩ hM iG hL1;dsimp only[SB] at hM ⊢;refine aK fun K6 dn=>?_;refine aW ?_;refine om ?_;refine oe bY ?_;refine on ?_;refine cc rfl hM (fun oJ hM=>?_) (fun oJ hM=>?_)
 ·refine aX (dn _ _ ?_);clear dn;refine jm y (k:=NR oL bA) (fun (Rp,Rz,RA,RB,RD,RF,RG)=>[(1,eI i0),(3,eP b1),(5,eP b2),(7,eP b5),(8,eI Rp),(9,eP b6),(10,eI (oL:Int))]) (fun (Rp,Rz,RA,RB,RD,RF,RG)=>[iL l0.aU ay.1,iL l0.bG ay.2.1,iL l0.Sections ay.2.2.1,iL l0.Links ay.2.2.2,own b1 26 (cK l0 ay),own b2 185 (Rt x0),own b5 183 (sN x3),own b6 183 [vI Rz,vI RA,vI RB,vI RD,vI RF,vI RG]]) ?_ ?_
  · intro zC hJ2;refine bH ?_;refine aK fun K8 gV=>?_;refine gy _ (List.Sublist.refl _) ?_;refine ak 0 rfl (av 3) ?_;refine ak 1 rfl (aF (b:=b1)) ?_;refine ak 2 rfl aL ?_;obtain⟨x9,ni,hM⟩:=bind_some hM;refine ak 3 rfl (bD (xs:=l0.Links) 6 (kG l0.Links ay.2.2.2) (iS ni)) ?_;refine ak 4 rfl (fM (m:=6) (i:=(oL:Int)) (xs:=l0.Links) (y:=x9) (l:=(sN x9)) 0 (kG l0.Links ay.2.2.2) (fun _=>ni)) ?_;refine ak 5 rfl (bR (b:=b2)) ?_;obtain⟨eU,vV,hM⟩:=bind_some hM;refine dH 6 rfl (sV (fun hs=>abT _ _ x9 x0 eU vV (bf hs)) ⟨rI,?_⟩);refine dP (gV _ _ ?_);clear gV;refine cc rfl hM (fun zM hM=>?_) (fun zM hM=>?_)
    ·refine aW ?_;refine oP hM fun hM=>?_;refine aT ?_;refine bB ?_;refine oe (av 3) ?_;refine oe (aF (b:=b1)) ?_;refine om ?_;obtain⟨qM,hx16,hM⟩:=bind_some hM;refine oe (bD (xs:=l0.Links) 6 (kG l0.Links ay.2.2.2) (iS hx16)) ?_;refine oe (fM (m:=6) (i:=(oL:Int)) (xs:=l0.Links) (y:=qM) (l:=(sN qM)) 0 (kG l0.Links ay.2.2.2) (fun _=>hx16)) ?_;refine oS b6 (sN qM) ?_;refine bC (hJ2 hM sS rI)
    refine aX (hJ2 hM sS rI)
  clear hM;rintro⟨Rp,Rz,RA,RB,RD,RF,RG⟩ hM;dsimp only[NR] at hM ⊢;refine bB ?_;refine om ?_;refine oP hM fun hM=>?_;refine oa ?_;refine bC (hL1 hM sS rI)
 refine dK (hK4 _ _ ?_);clear hK4;dsimp only[abS] at hM;refine aW ?_;refine oe dU ?_;refine om ?_;refine aD rfl aL ?_;refine aD rfl dU ?_;refine aD rfl aL ?_;refine aD rfl (av 4) ?_;refine aD rfl (aF (b:=b5)) ?_;refine aD rfl jK ?_;refine aD rfl dG ?_;refine aD rfl aL ?_;refine aD rfl (av 4) ?_;refine aD rfl (aF (b:=b6)) ?_;refine aD rfl (av 4) ?_;refine aD rfl (aF (b:=b5)) ?_;refine aD rfl dU ?_;refine aD rfl dG ?_;refine aD rfl aL ?_;refine aD rfl (av 5) ?_;refine aD rfl (aF (b:=b6)) ?_;refine aD rfl (av 5) ?_;refine aD rfl (aF (b:=b5)) ?_;refine aD rfl gZ ?_;refine aD rfl dG ?_;refine oe dQ ?_;refine aT ?_;exact aY (bQ hM)
def abU(l0:Layout)(i0:Int)(x2:Link):Unit→Option Int:=fun _=>
 (NS l0 i0 (pG.mk x2.A x2.dN)).bind fun Yh=>
 (fK (!(!Yh)) default (NS l0 i0 (pG.mk x2.B x2.dV))).bind fun AY=>
 if ((!Yh)||(!AY)) then
  (some 11)
 else
  (some 0)
def SE(i0:Int)(l0:Layout)(x2:Link)(bA:Nat→Option Int):Nat→Option Int:=fun oL=>
 if decide ((oL:Int)<i0) then
  ((idx l0.Links (oL:Int)).bind fun x23=>
  (NT x23 (pG.mk x2.A x2.dN)).bind fun y25=>
  (fK y25 default (idx l0.Links (oL:Int))).bind fun x27=>
  (fK y25 default (NT x27 (pG.mk x2.B x2.dV))).bind fun y29=>
  if (y25&&y29) then
   (some 5)
  else
   (bq (bJ ((oL:Int)+1))<|
   bA (oL+1)))
 else
  (abU l0 i0 x2 ())
def WG(x2:Link)(i0:Int)(l0:Layout):Unit→Option Int:=fun _=>
 if decide ((pG.mk x2.A x2.dN)=(pG.mk x2.B x2.dV)) then
  (some 1)
 else
  (iter (SE i0 l0 x2) FUEL 0)
def SF(l0:Layout)(i0:Int):Option Int:=
 (idx l0.Links i0).bind fun x2=>
 bq (bJ ((l0.Sections.length:Int)-1))<|
 (zf x2.A 0 ((l0.Sections.length:Int)-1)).bind fun y6=>
 bq (!(!(!y6))||bJ ((l0.Sections.length:Int)-1))<|
 (fK (!(!y6)) default (zf x2.B 0 ((l0.Sections.length:Int)-1))).bind fun y9=>
 (fK (!((!y6)||(!y9))) default (zf x2.dN 0 1)).bind fun eU=>
 (fK (!(((!y6)||(!y9))||(!eU))) default (zf x2.dV 0 1)).bind fun y13=>
 bq (!(!((((!y6)||(!y9))||(!eU))||(!y13)))||bJ ((l0.bG.length:Int)-1))<|
 (fK (!((((!y6)||(!y9))||(!eU))||(!y13))) default (zf x2.Point (-1) ((l0.bG.length:Int)-1))).bind fun qw=>
 (fK (!(((((!y6)||(!y9))||(!eU))||(!y13))||(!qw))) default (zf x2.Pos 0 1)).bind fun jW=>
 if (((((((!y6)||(!y9))||(!eU))||(!y13))||(!qw))||(!jW))||(decide (x2.Point<0)&&decide (x2.Pos≠0))) then
  (some 4)
 else
  (WG x2 i0 l0 ())
theorem aqi(S:bO)(w:World)(l0:Layout)(ay:aC.R Layout)(i0:Int)(y:Int)(hM:SF l0 i0=some y)(hS:sB S w)(dZ:aC.ok S w ay l0):
   Calls Tryz.prog 54 #[.agg (jN l0 ay),vI i0] w (dz w (vI y)):=by
 refine cu (args:=[_,_]) Tryz.func54 rfl ((pre_nil hS).start |>.lY dZ) rfl ?_;unfold SF at hM;refine sr ?_;refine oB (cK l0 ay) fun b1=>?_;refine aT ?_;refine sr ?_;refine oe (av 3) ?_;refine oe (aF (b:=b1)) ?_;refine om ?_;obtain⟨x2,hx3,hM⟩:=bind_some hM;refine oe (bD (xs:=l0.Links) 6 (kG l0.Links ay.2.2.2) (iS hx3)) ?_;refine oe (fM (m:=6) (i:=i0) (xs:=l0.Links) (y:=x2) (l:=(sN x2)) 0 (kG l0.Links ay.2.2.2) (fun _=>hx3)) ?_;refine oA rfl fun b4=>?_;refine oS b4 (sN x2) ?_
 refine on ?_;refine sr ?_;refine oe (av 2) ?_;refine oe (aF (b:=b1)) ?_;refine oe bL ?_;refine aT ?_;refine aK fun K4 hK4=>?_;refine sr ?_;refine oe (av 0) ?_;refine oe (aF (b:=b4)) ?_;refine om ?_;refine oN hM fun hM=>?_;obtain⟨y6,qh,hM⟩:=bind_some hM;refine cv (fun hs=>Ey _ _ x2.A 0 ((l0.Sections.length:Int)-1) y6 qh (bf hs)) ?_;refine oe fq ?_;refine om ?_;refine aD rfl (av 2) ?_;refine aD rfl (aF (b:=b4)) ?_;refine aD rfl aL ?_;obtain⟨Qj,hM⟩:=bW hM;refine aD rfl (ng (hr:=fun hg=>dY (Cb Qj hg))) ?_;obtain⟨y9,zR,hM⟩:=bind_some hM;refine cg rfl (fun hg hs=>Ey _ _ x2.B 0 ((l0.Sections.length:Int)-1) y9 (eF zR hg) (bf hs)) ?_;refine aD rfl fq ?_;refine oe dQ ?_;refine om ?_;refine aD rfl (av 1) ?_;refine aD rfl (aF (b:=b4)) ?_;obtain⟨eU,vV,hM⟩:=bind_some hM;refine cg rfl (fun hg hs=>Ey _ _ x2.dN 0 1 eU (eF vV hg) (bf hs)) ?_;refine aD rfl fq ?_;refine oe dQ ?_;refine om ?_
 refine aD rfl (av 3) ?_;refine aD rfl (aF (b:=b4)) ?_;obtain⟨y13,xS,hM⟩:=bind_some hM;refine cg rfl (fun hg hs=>Ey _ _ x2.dV 0 1 y13 (eF xS hg) (bf hs)) ?_;refine aD rfl fq ?_;refine oe dQ ?_;refine om ?_;refine aD rfl (av 4) ?_;refine aD rfl (aF (b:=b4)) ?_;refine aD rfl (av 1) ?_;refine aD rfl (aF (b:=b1)) ?_;refine aD rfl bL ?_;obtain⟨Zj,hM⟩:=bW hM;refine aD rfl (ng (hr:=fun hg=>dY (Cb Zj hg))) ?_;obtain⟨qw,Fw,hM⟩:=bind_some hM;refine cg rfl (fun hg hs=>Ey _ _ x2.Point (-1) ((l0.bG.length:Int)-1) qw (eF Fw hg) (bf hs)) ?_;refine aD rfl fq ?_;refine oe dQ ?_;refine om ?_;refine aD rfl (av 5) ?_;refine aD rfl (aF (b:=b4)) ?_;obtain⟨jW,xU,hM⟩:=bind_some hM;refine cg rfl (fun hg hs=>Ey _ _ x2.Pos 0 1 jW (eF xU hg) (bf hs)) ?_;refine aD rfl fq ?_;refine oe dQ ?_;refine om ?_;refine aD rfl (av 4) ?_;refine aD rfl (aF (b:=b4)) ?_;refine aD rfl bY ?_;refine aD rfl aL ?_;refine aD rfl (av 5) ?_;refine aD rfl (aF (b:=b4)) ?_;refine aD rfl gZ ?_;refine aD rfl dG ?_;refine oe dQ ?_;refine on ?_
 refine cc rfl hM (fun D7 hM=>?_) (fun D7 hM=>?_)
 ·refine bI ?_;exact aY (bQ hM)
 refine aX (hK4 _ _ ?_);clear hK4;refine jn (Nat×Nat) y (k:=WG x2 i0 l0) (fun _ (EW,EY)=>[(1,eI i0),(2,eP b1),(7,eP EW),(8,eP EY)]) (fun _ (EW,EY)=>[iL l0.aU ay.1,iL l0.bG ay.2.1,iL l0.Sections ay.2.2.1,iL l0.Links ay.2.2.2,own b1 26 (cK l0 ay),own EW 185 [vI x2.A,vI x2.dN],own EY 185 [vI x2.B,vI x2.dV]]) ?_ ?_
 ·intro zB fu;refine gy _ (List.Sublist.refl _) ?_;refine ak 0 rfl (av 0) ?_;refine ak 1 rfl (aF (b:=b4)) ?_;refine ak 2 rfl (av 1) ?_;refine ak 3 rfl (aF (b:=b4)) ?_;refine ak 4 rfl (gI [vI x2.A,vI x2.dN]) ?_;refine ak 5 rfl (av 2) ?_;refine ak 6 rfl (aF (b:=b4)) ?_;refine ak 7 rfl (av 3) ?_;refine ak 8 rfl (aF (b:=b4)) ?_;refine ak 9 rfl (gI [vI x2.B,vI x2.dV]) ?_;refine mh 10 11 (⟨_,rfl,rfl,iw rfl (k:=fun BQ=>⟨rI,?_⟩)⟩) (⟨_,rfl,rfl,iw rfl (k:=fun Gt=>⟨rI,?_⟩)⟩)
  · refine aA 11 rfl rfl fun DU=>?_;refine aS 12 rfl BQ [vI x2.A,vI x2.dN] ?_;refine aS 13 rfl DU [vI x2.B,vI x2.dV] ?_;refine dP (fu (BQ,DU) hM sS rI)
  refine aA 10 rfl rfl fun Je=>?_;refine aS 12 rfl Je [vI x2.A,vI x2.dN] ?_;refine aS 13 rfl Gt [vI x2.B,vI x2.dV] ?_;refine dP (fu (Je,Gt) hM sS rI)
 clear hM;rintro⟨⟩ ⟨EW,EY⟩ hM;dsimp only[WG] at hM ⊢;refine aK fun K7 eu=>?_;refine sr ?_;refine oe (bR (b:=EW)) ?_;refine oe (bR (b:=EY)) ?_;refine oe (Mf [.int .i64,.int .i64] (decide ((pG.mk x2.A x2.dN)=(pG.mk x2.B x2.dV))) (aiL _ _)) ?_;refine on ?_;refine cc rfl hM (fun hc21 hM=>?_) (fun hc21 hM=>?_)
 ·refine bI ?_;exact aY (bQ hM)
 refine aX (eu _ _ ?_);clear eu;refine aK fun tK gU=>?_;refine bI ?_;refine bH ?_;refine lq hM (fun oL=>[(1,eI i0),(2,eP b1),(7,eP EW),(8,eP EY),(9,eI (oL:Int))]) (fun oL=>[iL l0.aU ay.1,iL l0.bG ay.2.1,iL l0.Sections ay.2.2.1,iL l0.Links ay.2.2.2,own b1 26 (cK l0 ay),own EW 185 [vI x2.A,vI x2.dN],own EY 185 [vI x2.B,vI x2.dV]]) sS rI ?_;clear hM;rintro bA oL hM iG hL1;dsimp only[SE] at hM ⊢;refine aK fun zy jY=>?_;refine aW ?_;refine om ?_;refine oe bY ?_;refine on ?_;refine cc rfl hM (fun hc22 hM=>?_) (fun hc22 hM=>?_)
 ·refine aX (jY _ _ ?_);clear jY;refine aK fun BN mq=>?_;refine bH ?_;refine aK fun zA jZ=>?_;refine gy _ (List.Sublist.refl _) ?_;refine ak 0 rfl (av 3) ?_;refine ak 1 rfl (aF (b:=b1)) ?_;refine ak 2 rfl aL ?_;obtain⟨x23,hx24,hM⟩:=bind_some hM;refine ak 3 rfl (bD (xs:=l0.Links) 6 (kG l0.Links ay.2.2.2) (iS hx24)) ?_;refine ak 4 rfl (fM (m:=6) (i:=(oL:Int)) (xs:=l0.Links) (y:=x23) (l:=(sN x23)) 0 (kG l0.Links ay.2.2.2) (fun _=>hx24)) ?_;refine ak 5 rfl (bR (b:=EW)) ?_;obtain⟨y25,Fx,hM⟩:=bind_some hM;refine dH 6 rfl (sV (fun hs=>abT _ _ x23 (pG.mk x2.A x2.dN) y25 Fx (bf hs)) ⟨rI,?_⟩);refine ak 7 rfl aL ?_;refine dO 8 rfl rfl (av 3) ?_;refine dO 9 rfl rfl (aF (b:=b1)) ?_;refine dO 10 rfl rfl aL ?_;obtain⟨x27,hx28,hM⟩:=bind_some hM;refine dO 11 rfl rfl (bD (xs:=l0.Links) 6 (kG l0.Links ay.2.2.2) (fun hg=>let h:=nH (eF hx28 hg);⟨h.1,h.2.1⟩)) ?_;refine dO 12 rfl rfl (fM (m:=6) (i:=(oL:Int)) (xs:=l0.Links) (y:=x27) (l:=(sN x27)) 0 (kG l0.Links ay.2.2.2) (fun hg=>eF hx28 hg)) ?_
  refine dO 13 rfl rfl (bR (b:=EY)) ?_;obtain⟨y29,QT,hM⟩:=bind_some hM;refine LJ 14 rfl rfl (fun hg w hm=>let ⟨S,hs⟩:=hm;abT _ w x27 (pG.mk x2.B x2.dV) y29 (eF QT hg) (bf hs)) ?_;refine ak 15 rfl dG ?_;refine dP (jZ _ _ ?_);clear jZ;refine cc rfl hM (fun hc31 hM=>?_) (fun hc31 hM=>?_)
  · refine bI ?_;exact aY (bQ hM)
  refine aX (mq _ _ ?_);clear mq;refine bB ?_;refine om ?_;refine oP hM fun hM=>?_;refine oa ?_;refine bC (hL1 hM sS rI)
 refine dK (gU _ _ ?_);clear gU;dsimp only[abU] at hM;refine aK fun LA sI=>?_;refine sr ?_;refine oe (bR (b:=b1)) ?_;refine om ?_;refine oe (bR (b:=EW)) ?_;obtain⟨Yh,hy34,hM⟩:=bind_some hM;refine cv (fun hs=>ag8 _ _ l0 ay i0 (pG.mk x2.A x2.dN) Yh hy34 (bf hs) ⟨(kM hs),(kM hs),(kM hs),(kM hs)⟩) ?_;refine oe fq ?_;refine om ?_;refine aD rfl (bR (b:=b1)) ?_;refine aD rfl aL ?_;refine aD rfl (bR (b:=EY)) ?_;obtain⟨AY,Mw,hM⟩:=bind_some hM;refine cg rfl (fun hg hs=>ag8 _ _ l0 ay i0 (pG.mk x2.B x2.dV) AY (eF Mw hg) (bf hs) ⟨(kM hs),(kM hs),(kM hs),(kM hs)⟩) ?_;refine aD rfl fq ?_;refine oe dQ ?_;refine on ?_;refine cc rfl hM (fun ZG hM=>?_) (fun ZG hM=>?_)
 ·refine bI ?_;exact aY (bQ hM)
 refine aX (sI _ _ ?_);clear sI;refine bI ?_;exact aY (bQ hM)
def agU:Unit→Option Int:=fun _=>
 some 0
def Sj(l0:Layout)(oH:Nat→Option Int):Nat→Option Int:=fun lV=>
 if decide ((lV:Int)<(l0.Links.length:Int)) then
  ((SF l0 (lV:Int)).bind fun Yi=>
  if decide (Yi≠0) then
   (some Yi)
  else
   (bq (bJ ((lV:Int)+1))<|
   oH (lV+1)))
 else
  (agU ())
def Ww(l0:Layout):Unit→Option Int:=fun _=>
 iter (Sj l0) FUEL 0
def Si(l0:Layout)(eG:(List Str))(jX:Nat→Option Int):Nat→Option Int:=fun fO=>
 if decide ((fO:Int)<(l0.Sections.length:Int)) then
  ((H8 eG (fO:Int)).bind fun jW=>
  if decide (jW≠0) then
   (some jW)
  else
   ((idx l0.Sections (fO:Int)).bind fun x21=>
   (zf x21.Length 1 400).bind fun y24=>
   (fK (!(!y24)) default (zf x21.Limit 1000 100000)).bind fun aP=>
   (fK (!((!y24)||(!aP))) default (zf x21.jQ (-40) 40)).bind fun y28=>
   bq (!(!(((!y24)||(!aP))||(!y28)))||bJ ((l0.aU.length:Int)-1))<|
   (fK (!(((!y24)||(!aP))||(!y28))) default (zf x21.nG (-1) ((l0.aU.length:Int)-1))).bind fun y31=>
   if ((((!y24)||(!aP))||(!y28))||(!y31)) then
    (some 4)
   else
    (bq (bJ ((fO:Int)+1))<|
    jX (fO+1))))
 else
  (Ww l0 ())
def Sm(l0:Layout):Unit→Option Int:=fun _=>
 (NV l0).bind fun eG=>
 iter (Si l0 eG) FUEL 0
def abH(l0:Layout)(fE:Nat→Option Int):Nat→Option Int:=fun jA=>
 if decide ((jA:Int)<(l0.bG.length:Int)) then
  ((H8 l0.bG (jA:Int)).bind fun jd=>
  if decide (jd≠0) then
   (some jd)
  else
   (bq (bJ ((jA:Int)+1))<|
   fE (jA+1)))
 else
  (Sm l0 ())
def Wv(l0:Layout):Unit→Option Int:=fun _=>
 iter (abH l0) FUEL 0
def abG(l0:Layout)(bA:Nat→Option Int):Nat→Option Int:=fun bg=>
 if decide ((bg:Int)<(l0.aU.length:Int)) then
  ((H8 l0.aU (bg:Int)).bind fun y5=>
  if decide (y5≠0) then
   (some y5)
  else
   (bq (bJ ((bg:Int)+1))<|
   bA (bg+1)))
 else
  (Wv l0 ())
def Kw(l0:Layout):Option Int:=
 if (((decide (24<(l0.aU.length:Int))||decide (48<(l0.bG.length:Int)))||decide (96<(l0.Sections.length:Int)))||decide (192<(l0.Links.length:Int))) then
  (some 7)
 else
  (if decide ((l0.Sections.length:Int)=0) then
   (some 1)
  else
   (iter (abG l0) FUEL 0))
theorem abI(S:bO)(w:World)(l0:Layout)(ay:aC.R Layout)(y:Int)(hM:Kw l0=some y)(hS:sB S w)(dZ:aC.ok S w ay l0):
   Calls Tryz.prog 21 #[.agg (jN l0 ay)] w (dz w (vI y)):=by
 refine cu (args:=[_]) Tryz.func21 rfl ((pre_nil hS).start |>.lY dZ) rfl ?_;unfold Kw at hM;refine sr ?_;refine oB (cK l0 ay) fun b1=>?_;refine aT ?_;refine aK fun K2 hK2=>?_;refine sr ?_;refine oe (av 0) ?_;refine oe (aF (b:=b1)) ?_;refine oe bL ?_;refine oe gM ?_;refine om ?_;refine aD rfl (av 1) ?_;refine aD rfl (aF (b:=b1)) ?_;refine aD rfl bL ?_;refine aD rfl gM ?_;refine oe dQ ?_;refine om ?_;refine aD rfl (av 2) ?_;refine aD rfl (aF (b:=b1)) ?_;refine aD rfl bL ?_;refine aD rfl gM ?_;refine oe dQ ?_;refine om ?_;refine aD rfl (av 3) ?_;refine aD rfl (aF (b:=b1)) ?_;refine aD rfl bL ?_;refine aD rfl gM ?_;refine oe dQ ?_;refine on ?_
 refine cc rfl hM (fun hc2 hM=>?_) (fun hc2 hM=>?_)
 ·refine bI ?_;exact aY (bQ hM)
 refine aX (hK2 _ _ ?_);clear hK2;refine aK fun K5 dI=>?_;refine sr ?_;refine oe (av 2) ?_;refine oe (aF (b:=b1)) ?_;refine oe bL ?_;refine oe dU ?_;refine on ?_;refine cc rfl hM (fun hc3 hM=>?_) (fun hc3 hM=>?_)
 ·refine bI ?_;exact aY (bQ hM)
 refine aX (dI _ _ ?_);clear dI;refine aK fun K8 gV=>?_;refine bI ?_;refine bH ?_;refine lq hM (fun bg=>[(1,eP b1),(3,eI (bg:Int))]) (fun bg=>[iL l0.aU ay.1,iL l0.bG ay.2.1,iL l0.Sections ay.2.2.1,iL l0.Links ay.2.2.2,own b1 26 (cK l0 ay)]) sS rI ?_;clear hM;rintro bA bg hM iG hL1;dsimp only[abG] at hM ⊢;refine aK fun tK gU=>?_;refine aW ?_;refine oe (av 0) ?_;refine oe (aF (b:=b1)) ?_;refine oe bL ?_;refine oe bY ?_;refine on ?_;refine cc rfl hM (fun hc4 hM=>?_) (fun hc4 hM=>?_)
 ·refine aX (gU _ _ ?_);clear gU;refine aK fun zy jY=>?_;refine bH ?_;refine sr ?_;refine oe (av 0) ?_;refine oe (aF (b:=b1)) ?_;refine om ?_;obtain⟨y5,ug,hM⟩:=bind_some hM;refine cv (fun hs=>abV _ _ l0.aU ay.1 (bg:Int) y5 ug (bf hs) (kM hs)) ?_;refine aT ?_;refine aW ?_;refine oe gZ ?_;refine on ?_;refine cc rfl hM (fun oJ hM=>?_) (fun oJ hM=>?_)
  · refine aW ?_;refine aT ?_;exact aY (bQ hM)
  refine aX (jY _ _ ?_);clear jY;refine bB ?_;refine om ?_;refine oP hM fun hM=>?_;refine oa ?_;refine bC (hL1 hM sS rI)
 refine dK (gV _ _ ?_);clear gV;dsimp only[Wv] at hM;refine aK fun Ba kX=>?_;refine bI ?_;refine bH ?_;refine lq hM (fun jA=>[(1,eP b1),(5,eI (jA:Int))]) (fun jA=>[iL l0.aU ay.1,iL l0.bG ay.2.1,iL l0.Sections ay.2.2.1,iL l0.Links ay.2.2.2,own b1 26 (cK l0 ay)]) sS rI ?_;clear hM;rintro fE jA hM wH hL2;dsimp only[abH] at hM ⊢;refine aK fun Gg pO=>?_;refine aW ?_;refine oe (av 1) ?_;refine oe (aF (b:=b1)) ?_;refine oe bL ?_;refine oe bY ?_;refine on ?_;refine cc rfl hM (fun qV hM=>?_) (fun qV hM=>?_)
 ·refine aX (pO _ _ ?_);clear pO;refine aK fun I9 qR=>?_;refine bH ?_;refine sr ?_;refine oe (av 1) ?_;refine oe (aF (b:=b1)) ?_;refine om ?_;obtain⟨jd,tZ,hM⟩:=bind_some hM;refine cv (fun hs=>abV _ _ l0.bG ay.2.1 (jA:Int) jd tZ (bf hs) (kM hs)) ?_;refine aT ?_;refine aW ?_;refine oe gZ ?_;refine on ?_;refine cc rfl hM (fun qD hM=>?_) (fun qD hM=>?_)
  · refine aW ?_;refine aT ?_;exact aY (bQ hM)
  refine aX (qR _ _ ?_);clear qR;refine bB ?_;refine om ?_;refine oP hM fun hM=>?_;refine oa ?_;refine bC (hL2 hM sS rI)
 refine dK (kX _ _ ?_);clear kX;dsimp only[Sm] at hM;refine sr ?_;refine oe (bR (b:=b1)) ?_;obtain⟨eG,uf,hM⟩:=bind_some hM;refine bM (fJ jM.nil (fun S w hs hP=>ahe _ w l0 ay eG uf (bf hs) ⟨(kM hs),(kM hs),(kM hs),(kM hs)⟩) gq (fun r16=>?_));dsimp only[cA,nA];refine aT ?_;refine aK fun Ym Cc=>?_;refine bI ?_;refine bH ?_;refine lq hM (fun fO=>[(1,eP b1),(7,eS r16 eG),(8,eI (fO:Int))]) (fun fO=>[iL l0.aU ay.1,iL l0.bG ay.2.1,iL l0.Sections ay.2.2.1,iL l0.Links ay.2.2.2,own b1 26 (cK l0 ay),aj 9 r16 eG]) sS rI ?_;clear hM;rintro jX fO hM Gi hL3;dsimp only[Si] at hM ⊢;refine aK fun UH yN=>?_;refine aW ?_;refine oe (av 2) ?_;refine oe (aF (b:=b1)) ?_;refine oe bL ?_
 refine oe bY ?_;refine on ?_;refine cc rfl hM (fun hc17 hM=>?_) (fun hc17 hM=>?_)
 ·refine aX (yN _ _ ?_);clear yN;refine aK fun LC sK=>?_;refine bH ?_;refine aK fun UJ yO=>?_;refine aW ?_;refine om ?_;obtain⟨jW,xU,hM⟩:=bind_some hM;refine cv (fun hs=>abV _ _ eG r16 (fO:Int) jW xU (bf hs) (kT hs)) ?_;refine aT ?_;refine aW ?_;refine oe gZ ?_;refine on ?_;refine cc rfl hM (fun D7 hM=>?_) (fun D7 hM=>?_)
  · refine aW ?_;refine aT ?_;exact aY (bQ hM)
  refine aX (yO _ _ ?_);clear yO;refine sr ?_;refine oe (av 2) ?_;refine oe (aF (b:=b1)) ?_;refine om ?_;obtain⟨x21,QF,hM⟩:=bind_some hM;refine oe (bD (xs:=l0.Sections) 5 (kG l0.Sections ay.2.2.1) (iS QF)) ?_;refine oe (fM (m:=5) (i:=(fO:Int)) (xs:=l0.Sections) (y:=x21) (l:=(Ae x21)) 0 (kG l0.Sections ay.2.2.1) (fun _=>QF)) ?_;refine oA rfl fun Pw=>?_;refine oS Pw (Ae x21) ?_;refine on ?_;refine sr ?_;refine oe (av 1) ?_;refine oe (aF (b:=Pw)) ?_;obtain⟨y24,hy25,hM⟩:=bind_some hM;refine cv (fun hs=>Ey _ _ x21.Length 1 400 y24 hy25 (bf hs)) ?_;refine oe fq ?_;refine om ?_;refine aD rfl (av 2) ?_;refine aD rfl (aF (b:=Pw)) ?_;obtain⟨aP,hy27,hM⟩:=bind_some hM;refine cg rfl (fun hg hs=>Ey _ _ x21.Limit 1000 100000 aP (eF hy27 hg) (bf hs)) ?_;refine aD rfl fq ?_;refine oe dQ ?_
  refine om ?_;refine aD rfl (av 3) ?_;refine aD rfl (aF (b:=Pw)) ?_;obtain⟨y28,hy29,hM⟩:=bind_some hM;refine cg rfl (fun hg hs=>Ey _ _ x21.jQ (-40) 40 y28 (eF hy29 hg) (bf hs)) ?_;refine aD rfl fq ?_;refine oe dQ ?_;refine om ?_;refine aD rfl (av 4) ?_;refine aD rfl (aF (b:=Pw)) ?_;refine aD rfl (av 0) ?_;refine aD rfl (aF (b:=b1)) ?_;refine aD rfl bL ?_;obtain⟨akP,hM⟩:=bW hM;refine aD rfl (ng (hr:=fun hg=>dY (Cb akP hg))) ?_;obtain⟨y31,hy32,hM⟩:=bind_some hM;refine cg rfl (fun hg hs=>Ey _ _ x21.nG (-1) ((l0.aU.length:Int)-1) y31 (eF hy32 hg) (bf hs)) ?_;refine aD rfl fq ?_;refine oe dQ ?_;refine on ?_;refine cc rfl hM (fun Qx hM=>?_) (fun Qx hM=>?_)
  · refine bI ?_;exact aY (bQ hM)
  refine aX (sK _ _ ?_);clear sK;refine bB ?_;refine om ?_;refine oP hM fun hM=>?_;refine oa ?_;refine bC (hL3 hM sS rI)
 refine dK (Cc _ _ ?_);clear Cc;dsimp only[Ww] at hM;refine aK fun Yq Ci=>?_;refine bI ?_;refine bH ?_;refine lq hM (fun lV=>[(1,eP b1),(11,eI (lV:Int))]) (fun lV=>[iL l0.aU ay.1,iL l0.bG ay.2.1,iL l0.Sections ay.2.2.1,iL l0.Links ay.2.2.2,own b1 26 (cK l0 ay)]) sS rI ?_;clear hM;rintro oH lV hM Pm hL4;dsimp only[Sj] at hM ⊢;refine aK fun K39 Qm=>?_;refine aW ?_;refine oe (av 3) ?_;refine oe (aF (b:=b1)) ?_;refine oe bL ?_;refine oe bY ?_;refine on ?_;refine cc rfl hM (fun alQ hM=>?_) (fun alQ hM=>?_)
 ·refine aX (Qm _ _ ?_);clear Qm;refine aK fun K41 Qn=>?_;refine bH ?_;refine sr ?_;refine oe (bR (b:=b1)) ?_;refine om ?_;obtain⟨Yi,an7,hM⟩:=bind_some hM;refine cv (fun hs=>aqi _ _ l0 ay (lV:Int) Yi an7 (bf hs) ⟨(kM hs),(kM hs),(kM hs),(kM hs)⟩) ?_;refine aT ?_;refine aW ?_;refine oe gZ ?_;refine on ?_;refine cc rfl hM (fun hc38 hM=>?_) (fun hc38 hM=>?_)
  · refine aW ?_;refine aT ?_;exact aY (bQ hM)
  refine aX (Qn _ _ ?_);clear Qn;refine bB ?_;refine om ?_;refine oP hM fun hM=>?_;refine oa ?_;refine bC (hL4 hM sS rI)
 refine dK (Ci _ _ ?_);clear Ci;dsimp only[agU] at hM;refine bI ?_;exact aY (bQ hM)
end Go.Proofs.YtcalibhfgdncaaaGreatDoor

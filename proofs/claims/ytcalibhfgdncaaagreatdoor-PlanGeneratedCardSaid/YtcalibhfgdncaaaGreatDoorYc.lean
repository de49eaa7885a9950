/- Models of functions, and that the code computes them. -/
import Derived.Test.YtcalibhfgdncaaaGreatDoorRb
set_option linter.all false
namespace Go.Proofs.YtcalibhfgdncaaaGreatDoor
open Go.Dc Go.RowKit
set_option maxRecDepth 10000
def ahn:Unit→Option Bool:=fun _=>
 some false
def Tj(p0:Plan)(bA:Nat→Option Bool):Nat→Option Bool:=fun bg=>
 if decide ((bg:Int)<(p0.Lines.length:Int)) then
  ((idx p0.Lines (bg:Int)).bind fun x4=>
  if decide (12<(x4.aJ.length:Int)) then
   (some true)
  else
   (bq (bJ ((bg:Int)+1))<|
   bA (bg+1)))
 else
  (ahn ())
def Tk(p0:Plan):Option Bool:=
 if ((((((decide (8<(p0.aR.length:Int))||decide (48<(p0.Routes.length:Int)))||decide (16<(p0.Lines.length:Int)))||decide (32<(p0.Changes.length:Int)))||decide (32<(p0.Turns.length:Int)))||decide (32<(p0.bE.length:Int)))||decide (32<(p0.bF.length:Int))) then
  (some true)
 else
  (iter (Tj p0) FUEL 0)
theorem aqo(S:bO)(w:World)(p0:Plan)(ah:aC.R Plan)(y:Bool)(hM:Tk p0=some y)(hS:sB S w)(fT:aC.ok S w ah p0):
   Calls Tryz.prog 62 #[.agg (iV p0 ah)] w (dz w (.bool y)):=by
 refine cu (args:=[_]) Tryz.func62 rfl ((pre_nil hS).start |>.nS fT) rfl ?_;unfold Tk at hM;refine sr ?_;refine oB (dh p0 ah) fun b1=>?_;refine aT ?_;refine aK fun K2 hK2=>?_;refine sr ?_;refine oe (av 1) ?_;refine oe (aF (b:=b1)) ?_;refine oe bL ?_;refine oe gM ?_;refine om ?_;refine aD rfl (av 2) ?_;refine aD rfl (aF (b:=b1)) ?_;refine aD rfl bL ?_
 refine aD rfl gM ?_;refine oe dQ ?_;refine om ?_;refine aD rfl (av 3) ?_;refine aD rfl (aF (b:=b1)) ?_;refine aD rfl bL ?_;refine aD rfl gM ?_;refine oe dQ ?_;refine om ?_;refine aD rfl (av 4) ?_;refine aD rfl (aF (b:=b1)) ?_;refine aD rfl bL ?_;refine aD rfl gM ?_;refine oe dQ ?_;refine om ?_;refine aD rfl (av 5) ?_;refine aD rfl (aF (b:=b1)) ?_;refine aD rfl bL ?_;refine aD rfl gM ?_;refine oe dQ ?_;refine om ?_;refine aD rfl (av 6) ?_;refine aD rfl (aF (b:=b1)) ?_;refine aD rfl bL ?_;refine aD rfl gM ?_;refine oe dQ ?_;refine om ?_;refine aD rfl (av 7) ?_;refine aD rfl (aF (b:=b1)) ?_;refine aD rfl bL ?_;refine aD rfl gM ?_;refine oe dQ ?_;refine on ?_;refine cc rfl hM (fun hc2 hM=>?_) (fun hc2 hM=>?_)
 ·refine bI ?_;exact aY (bQ hM)
 refine aX (hK2 _ _ ?_);clear hK2;refine aK fun K5 dI=>?_;refine bI ?_;refine bH ?_;refine lq hM (fun bg=>[(1,eP b1),(3,eI (bg:Int))]) (fun bg=>[iL p0.aR ah.1,iL p0.Routes ah.2.1,iL p0.Lines ah.2.2.1,iL p0.Changes ah.2.2.2.1,iL p0.Turns ah.2.2.2.2.1,iL p0.bE ah.2.2.2.2.2.1,iL p0.bF ah.2.2.2.2.2.2,own b1 35 (dh p0 ah)]) sS rI ?_;clear hM;rintro bA bg hM iG hL1;dsimp only[Tj] at hM ⊢;refine aK fun K7 eu=>?_;refine aW ?_;refine oe (av 3) ?_;refine oe (aF (b:=b1)) ?_;refine oe bL ?_;refine oe bY ?_;refine on ?_;refine cc rfl hM (fun hc3 hM=>?_) (fun hc3 hM=>?_)
 ·refine aX (eu _ _ ?_);clear eu;refine aK fun K9 gB=>?_;refine bH ?_;refine sr ?_;refine oe (av 3) ?_;refine oe (aF (b:=b1)) ?_;refine om ?_;obtain⟨x4,hx5,hM⟩:=bind_some hM;refine oe (bD (xs:=p0.Lines) 4 (kG p0.Lines ah.2.2.1) (iS hx5)) ?_;refine oe (av 3) ?_;refine oe (bT (i:=(bg:Int)) (xs:=p0.Lines) (y:=x4) 3 (kG p0.Lines ah.2.2.1) (fun _=>hx5)) ?_;refine oe bL ?_;refine oe gM ?_;refine on ?_;refine cc rfl hM (fun hc6 hM=>?_) (fun hc6 hM=>?_)
  · refine bI ?_;exact aY (bQ hM)
  refine aX (gB _ _ ?_);clear gB;refine bB ?_;refine om ?_;refine oP hM fun hM=>?_;refine oa ?_;refine bC (hL1 hM sS rI)
 refine dK (dI _ _ ?_);clear dI;dsimp only[ahn] at hM;refine bI ?_;exact aY (bQ hM)
def rO(n0:Int)(jS:Int)(hi0:Int):Option Bool:=
 some (decide (jS≤n0)&&decide (n0≤hi0))
theorem zh(S:bO)(w:World)(n0:Int)(jS:Int)(hi0:Int)(y:Bool)(hM:rO n0 jS hi0=some y)(hS:sB S w):
  Calls Tryz.prog 63 #[vI n0,vI jS,vI hi0] w (dz w (.bool y)):=by
 refine cu (args:=[_,_,_]) Tryz.func63 rfl ((pre_nil hS).start) rfl ?_;unfold rO at hM;refine bI ?_;refine aW ?_;refine om ?_;refine oe jK ?_;refine om ?_;refine aD rfl aL ?_;refine aD rfl aL ?_;refine aD rfl oI ?_;refine oe dG ?_;refine aT ?_;exact aY (bQ hM)
def Ez(n0:Int)(jS:Int)(hi0:Int):Option Bool:=
 some (decide (jS≤n0)&&decide (n0≤hi0))
theorem NZ(S:bO)(w:World)(n0:Int)(jS:Int)(hi0:Int)(y:Bool)(hM:Ez n0 jS hi0=some y)(hS:sB S w):
  Calls Tryz.prog 123 #[vI n0,vI jS,vI hi0] w (dz w (.bool y)):=by
 refine cu (args:=[_,_,_]) Tryz.func123 rfl ((pre_nil hS).start) rfl ?_;unfold Ez at hM;refine bI ?_;refine aW ?_;refine om ?_;refine oe jK ?_;refine om ?_;refine aD rfl aL ?_;refine aD rfl aL ?_;refine aD rfl oI ?_;refine oe dG ?_;refine aT ?_;exact aY (bQ hM)
def NY(s0:aH):Option Bool:=
 (Ez s0.Length 1 40).bind fun y2=>
 (fK y2 default (Ez s0.qB 1000 100000)).bind fun y4=>
 (fK (y2&&y4) default (Ez s0.qy 100 2000)).bind fun y6=>
 (fK ((y2&&y4)&&y6) default (Ez s0.qz 100 2000)).bind fun y8=>
 some (((y2&&y4)&&y6)&&y8)
theorem ahh(S:bO)(w:World)(s0:aH)(y:Bool)(hM:NY s0=some y)(hS:sB S w):
  Calls Tryz.prog 122 #[.agg (Jc s0)] w (dz w (.bool y)):=by
 refine cu (args:=[_]) Tryz.func122 rfl ((pre_nil hS).start) rfl ?_;unfold NY at hM;refine sr ?_;refine oB (ru s0) fun b1=>?_;refine aT ?_;refine sr ?_;refine oe (av 1) ?_;refine oe (aF (b:=b1)) ?_;obtain⟨y2,hy3,hM⟩:=bind_some hM;refine cv (fun hs=>NZ _ _ s0.Length 1 40 y2 hy3 (bf hs)) ?_;refine om ?_;refine aD rfl (av 2) ?_;refine aD rfl (aF (b:=b1)) ?_;obtain⟨y4,Fy,hM⟩:=bind_some hM;refine cg rfl (fun hg hs=>NZ _ _ s0.qB 1000 100000 y4 (eF Fy hg) (bf hs)) ?_;refine oe dG ?_;refine om ?_;refine aD rfl (av 3) ?_;refine aD rfl (aF (b:=b1)) ?_;obtain⟨y6,qh,hM⟩:=bind_some hM;refine cg rfl (fun hg hs=>NZ _ _ s0.qy 100 2000 y6 (eF qh hg) (bf hs)) ?_;refine oe dG ?_;refine om ?_;refine aD rfl (av 4) ?_;refine aD rfl (aF (b:=b1)) ?_;obtain⟨y8,uh,hM⟩:=bind_some hM;refine cg rfl (fun hg hs=>NZ _ _ s0.qz 100 2000 y8 (eF uh hg) (bf hs)) ?_;refine oe dG ?_
 refine aT ?_;exact aY (bQ hM)
def ab8(p0:Plan)(i0:Int):Unit→Option Int:=fun _=>
 (idx p0.aR i0).bind fun jP=>
 (NY jP).bind fun qw=>
 if (!qw) then
  (some 4)
 else
  (some 0)
def Xe(i0:Int)(p0:Plan)(bA:Nat→Option Int):Nat→Option Int:=fun kg=>
 if decide ((kg:Int)<i0) then
  ((idx p0.aR (kg:Int)).bind fun x8=>
  (idx p0.aR i0).bind fun x10=>
  if decide (x8.Name=x10.Name) then
   (some 5)
  else
   (bq (bJ ((kg:Int)+1))<|
   bA (kg+1)))
 else
  (ab8 p0 i0 ())
def Oo(p0:Plan)(i0:Int):Option Int:=
 (idx p0.aR i0).bind fun x2=>
 (Kz x2.Name).bind fun y4=>
 if (!y4) then
  (some 3)
 else
  (iter (Xe i0 p0) FUEL 0)
theorem aqs(S:bO)(w:World)(p0:Plan)(ah:aC.R Plan)(i0:Int)(y:Int)(hM:Oo p0 i0=some y)(hS:sB S w)(fT:aC.ok S w ah p0):
   Calls Tryz.prog 64 #[.agg (iV p0 ah),vI i0] w (dz w (vI y)):=by
 refine cu (args:=[_,_]) Tryz.func64 rfl ((pre_nil hS).start |>.nS fT) rfl ?_;unfold Oo at hM;refine sr ?_;refine oB (dh p0 ah) fun b1=>?_;refine aT ?_;refine aK fun K2 hK2=>?_;refine sr ?_;refine oe (av 1) ?_;refine oe (aF (b:=b1)) ?_;refine om ?_;obtain⟨x2,hx3,hM⟩:=bind_some hM;refine oe (bD (xs:=p0.aR) 5 (kG p0.aR ah.1) (iS hx3)) ?_
 refine oe (av 0) ?_;refine oe (bT (i:=i0) (xs:=p0.aR) (y:=x2) 0 (kG p0.aR ah.1) (fun _=>hx3)) ?_;obtain⟨y4,Fy,hM⟩:=bind_some hM;refine cv (fun hs=>abL _ _ x2.Name y4 Fy (bf hs)) ?_;refine oe fq ?_;refine on ?_;refine cc rfl hM (fun hc6 hM=>?_) (fun hc6 hM=>?_)
 ·refine bI ?_;exact aY (bQ hM)
 refine aX (hK2 _ _ ?_);clear hK2;refine aK fun K5 dI=>?_;refine bI ?_;refine bH ?_;refine lq hM (fun kg=>[(1,eI i0),(2,eP b1),(5,eI (kg:Int))]) (fun kg=>[iL p0.aR ah.1,iL p0.Routes ah.2.1,iL p0.Lines ah.2.2.1,iL p0.Changes ah.2.2.2.1,iL p0.Turns ah.2.2.2.2.1,iL p0.bE ah.2.2.2.2.2.1,iL p0.bF ah.2.2.2.2.2.2,own b1 35 (dh p0 ah)]) sS rI ?_;clear hM;rintro bA kg hM iG hL1;dsimp only[Xe] at hM ⊢;refine aK fun K7 eu=>?_;refine aW ?_;refine om ?_;refine oe bY ?_;refine on ?_;refine cc rfl hM (fun oJ hM=>?_) (fun oJ hM=>?_)
 ·refine aX (eu _ _ ?_);clear eu;refine aK fun K9 gB=>?_;refine bH ?_;refine aK fun tK gU=>?_;refine gy _ (List.Sublist.refl _) ?_;refine ak 0 rfl (av 1) ?_;refine ak 1 rfl (aF (b:=b1)) ?_;refine ak 2 rfl aL ?_;obtain⟨x8,Fv,hM⟩:=bind_some hM;refine ak 3 rfl (bD (xs:=p0.aR) 5 (kG p0.aR ah.1) (iS Fv)) ?_;refine ak 4 rfl (av 0) ?_;refine ak 5 rfl (bT (i:=(kg:Int)) (xs:=p0.aR) (y:=x8) 0 (kG p0.aR ah.1) (fun _=>Fv)) ?_;refine ak 6 rfl (av 1) ?_;refine ak 7 rfl (aF (b:=b1)) ?_;refine ak 8 rfl aL ?_;obtain⟨x10,qW,hM⟩:=bind_some hM;refine ak 9 rfl (bD (xs:=p0.aR) 5 (kG p0.aR ah.1) (iS qW)) ?_;refine ak 10 rfl (av 0) ?_;refine ak 11 rfl (bT (i:=i0) (xs:=p0.aR) (y:=x10) 0 (kG p0.aR ah.1) (fun _=>qW)) ?_;refine ak 12 rfl xJ ?_;refine dP (gU _ _ ?_);clear gU;refine cc rfl hM (fun qD hM=>?_) (fun qD hM=>?_)
  · refine bI ?_;exact aY (bQ hM)
  refine aX (gB _ _ ?_);clear gB;refine bB ?_;refine om ?_;refine oP hM fun hM=>?_;refine oa ?_;refine bC (hL1 hM sS rI)
 refine dK (dI _ _ ?_);clear dI;dsimp only[ab8] at hM;refine aK fun zy jY=>?_;refine sr ?_;refine oe (av 1) ?_;refine oe (aF (b:=b1)) ?_;refine om ?_;obtain⟨jP,Bg,hM⟩:=bind_some hM;refine oe (bD (xs:=p0.aR) 5 (kG p0.aR ah.1) (iS Bg)) ?_;refine oe (fM (m:=5) (i:=i0) (xs:=p0.aR) (y:=jP) (l:=(ru jP)) 0 (kG p0.aR ah.1) (fun _=>Bg)) ?_;obtain⟨qw,Fw,hM⟩:=bind_some hM;refine cv (fun hs=>ahh _ _ jP qw Fw (bf hs)) ?_;refine oe fq ?_;refine on ?_;refine cc rfl hM (fun hc18 hM=>?_) (fun hc18 hM=>?_)
 ·refine bI ?_;exact aY (bQ hM)
 refine aX (jY _ _ ?_);clear jY;refine bI ?_;exact aY (bQ hM)
def Ky(bg:Nat)(bA:((List Hop)×Nat)→Option (List Hop)):(List Hop)→Option (List Hop):=fun MS=>
 bq (bJ ((bg:Int)+1))<|
 bA (MS,bg+1)
def NP(qG:List Hop)(yu:Int)(x7:Link)(bg:Nat)(bA:((List Hop)×Nat)→Option (List Hop)):Int→Option (List Hop):=fun Fa=>
 bq (decide ((qG.length+([(Hop.mk (Step.mk yu Fa) x7.Point x7.Pos)]:List Hop).length)*32≤140737488355328))<|
 Ky bg bA (qG++([(Hop.mk (Step.mk yu Fa) x7.Point x7.Pos)]:List Hop))
def Ew(qG:List Hop)(x7:Link)(bg:Nat)(bA:((List Hop)×Nat)→Option (List Hop)):(Int×Int)→Option (List Hop):=fun (yu,OI)=>
 if decide (0≤yu) then
  (if decide (OI=1) then
   (NP qG yu x7 bg bA 1)
  else
   (NP qG yu x7 bg bA 0))
 else
  (Ky bg bA qG)
def abJ(qG:List Hop):Unit→Option (List Hop):=fun _=>
 some qG
def Sq(l0:Layout)(s0:Step)(Bz:Int)(bA:((List Hop)×Nat)→Option (List Hop)):((List Hop)×Nat)→Option (List Hop):=fun (qG,bg)=>
 if decide ((bg:Int)<(l0.Links.length:Int)) then
  ((idx l0.Links (bg:Int)).bind fun x7=>
  if (decide (x7.A=s0.Section)&&decide (x7.dN=Bz)) then
   (Ew qG x7 bg bA (x7.B,x7.dV))
  else
   (if (decide (x7.B=s0.Section)&&decide (x7.dV=Bz)) then
    (Ew qG x7 bg bA (x7.A,x7.dN))
   else
    (Ew qG x7 bg bA ((-1),0))))
 else
  (abJ qG ())
def NM(l0:Layout)(s0:Step):Int→Option (List Hop):=fun Bz=>
 iter (Sq l0 s0 Bz) FUEL (([]:List Hop),0)
def Sr(l0:Layout)(s0:Step):Option (List Hop):=
 if decide (s0.Dir=1) then
  (NM l0 s0 0)
 else
  (NM l0 s0 1)
theorem aqc(S:bO)(w:World)(l0:Layout)(ay:aC.R Layout)(s0:Step)(y:(List Hop))(hM:Sr l0 s0=some y)(hS:sB S w)(dZ:aC.ok S w ay l0):
   Calls Tryz.prog 168 #[.agg (jN l0 ay),.agg (EO s0)] w (Post (β:=(aC.R (List Hop))) S [] (fun g=>sL g y) (fun g=>[aj 191 g y]) w):=by
 refine cu (args:=[_,_]) Tryz.func168 rfl ((pre_nil hS).start |>.lY dZ) rfl ?_;unfold Sr at hM;refine sr ?_;refine oB (cK l0 ay) fun b1=>?_;refine oB (o9 s0) fun b2=>?_;refine aT ?_;refine sr ?_;refine oe (av 0) ?_;refine oe (aF (b:=b2)) ?_;refine oe (gI [vI s0.Section,vI 1]) ?_;refine oA rfl fun b3=>?_;refine oS b3 [vI s0.Section,vI 1] ?_;refine on ?_;refine jm y (k:=NM l0 s0) (fun Bz=>[(2,eP b1),(5,eP b3)]) (fun Bz=>[iL l0.aU ay.1,iL l0.bG ay.2.1,iL l0.Sections ay.2.2.1,iL l0.Links ay.2.2.2,own b1 26 (cK l0 ay),own b3 185 [vI s0.Section,vI Bz]]) ?_ ?_
 ·intro zB fu;refine sr ?_;refine oe (av 1) ?_;refine oe (aF (b:=b2)) ?_;refine oe dU ?_;refine on ?_;refine cc rfl hM (fun hc18 hM=>?_) (fun hc18 hM=>?_)
  · refine bB ?_;refine oe (av 1) ?_;refine bM (iD (b:=b3) (l':=[vI s0.Section,vI 0]) (k:=?_));refine bC (fu hM sS rI)
  refine aX (fu hM sS rI)
 clear hM;rintro Bz hM;dsimp only[NM] at hM ⊢;refine bI ?_;refine aK fun K4 hK4=>?_;refine bI ?_;refine bH ?_;refine cZ (fun w hm=>hm.dR (α:=Hop) 191 (fun _=>())) ?_;refine lp apq hM (fun (qG,bg) CK=>[(2,eP b1),(5,eP b3),(6,eS CK qG),(7,eI (bg:Int))]) (fun (qG,bg) CK=>[iL l0.aU ay.1,iL l0.bG ay.2.1,iL l0.Sections ay.2.2.1,iL l0.Links ay.2.2.2,own b1 26 (cK l0 ay),own b3 185 [vI s0.Section,vI Bz],aj 191 CK qG]) sS rI ?_;clear hM;rintro bA ⟨qG,bg⟩ CK hM iG hL1;dsimp only[Sq] at hM ⊢;refine aK fun K6 dn=>?_;refine aW ?_;refine oe (av 3) ?_;refine oe (aF (b:=b1)) ?_;refine oe bL ?_;refine oe bY ?_;refine on ?_
 refine cc rfl hM (fun jL hM=>?_) (fun jL hM=>?_)
 ·refine aX (dn _ _ ?_);clear dn;refine jn (SR (aC.R Hop)) y (k:=Ky bg bA) (fun MS Tq=>[(2,eP b1),(5,eP b3),(6,eS Tq MS),(7,eI (bg:Int))]) (fun MS Tq=>[iL l0.aU ay.1,iL l0.bG ay.2.1,iL l0.Sections ay.2.2.1,iL l0.Links ay.2.2.2,own b1 26 (cK l0 ay),own b3 185 [vI s0.Section,vI Bz],aj 191 Tq MS]) ?_ ?_
  · intro Gh hJ3;refine bH ?_;refine sr ?_;refine oe (av 3) ?_;refine oe (aF (b:=b1)) ?_;refine om ?_;obtain⟨x7,yR,hM⟩:=bind_some hM;refine oe (bD (xs:=l0.Links) 6 (kG l0.Links ay.2.2.2) (iS yR)) ?_;refine oe (fM (m:=6) (i:=(bg:Int)) (xs:=l0.Links) (y:=x7) (l:=(sN x7)) 0 (kG l0.Links ay.2.2.2) (fun _=>yR)) ?_;refine oA rfl fun b9=>?_;refine oS b9 (sN x7) ?_;refine on ?_;refine sr ?_;refine oe (gI [vI (-1),vI 0]) ?_;refine oA rfl fun b10=>?_;refine oS b10 [vI (-1),vI 0] ?_;refine on ?_;refine jm y (k:=Ew qG x7 bg bA) (fun (yu,OI)=>[(2,eP b1),(5,eP b3),(6,eS CK qG),(7,eI (bg:Int)),(8,eP b9),(9,eP b10)]) (fun (yu,OI)=>[iL l0.aU ay.1,iL l0.bG ay.2.1,iL l0.Sections ay.2.2.1,iL l0.Links ay.2.2.2,own b1 26 (cK l0 ay),own b3 185 [vI s0.Section,vI Bz],aj 191 CK qG,own b9 183 (sN x7),own b10 185 [vI yu,vI OI]]) ?_ ?_
    ·intro UM xP;refine bH ?_;refine sr ?_;refine oe (av 0) ?_;refine oe (aF (b:=b9)) ?_;refine oe (av 0) ?_;refine oe (aF (b:=b3)) ?_;refine oe dU ?_;refine om ?_;refine aD rfl (av 1) ?_;refine aD rfl (aF (b:=b9)) ?_;refine aD rfl (av 1) ?_;refine aD rfl (aF (b:=b3)) ?_;refine aD rfl dU ?_;refine oe dG ?_;refine aT ?_;refine cc rfl hM (fun hc16 hM=>?_) (fun hc16 hM=>?_)
     ·refine bB ?_;refine oe (av 2) ?_;refine oe (aF (b:=b9)) ?_;refine oe (av 3) ?_;refine oe (aF (b:=b9)) ?_;refine oe (gI [vI x7.B,vI x7.dV]) ?_;refine oS b10 [vI x7.B,vI x7.dV] ?_;refine bC (xP hM sS rI)
     refine sr ?_;refine oe (av 2) ?_;refine oe (aF (b:=b9)) ?_;refine oe (av 0) ?_;refine oe (aF (b:=b3)) ?_;refine oe dU ?_;refine om ?_;refine aD rfl (av 3) ?_;refine aD rfl (aF (b:=b9)) ?_;refine aD rfl (av 1) ?_;refine aD rfl (aF (b:=b3)) ?_;refine aD rfl dU ?_;refine oe dG ?_;refine aT ?_;refine cc rfl hM (fun hc17 hM=>?_) (fun hc17 hM=>?_)
     ·refine bB ?_;refine oe (av 0) ?_;refine oe (aF (b:=b9)) ?_;refine oe (av 1) ?_;refine oe (aF (b:=b9)) ?_;refine oe (gI [vI x7.A,vI x7.dN]) ?_;refine oS b10 [vI x7.A,vI x7.dN] ?_;refine bC (xP hM sS rI)
     refine aX (xP hM sS rI)
    clear hM;rintro⟨yu,OI⟩ hM;dsimp only[Ew] at hM ⊢;refine sr ?_;refine oe (av 0) ?_;refine oe (aF (b:=b10)) ?_;refine oe jK ?_;refine on ?_;refine cc rfl hM (fun zL hM=>?_) (fun zL hM=>?_)
    ·refine bI ?_;refine jm y (k:=NP qG yu x7 bg bA) (fun Fa=>[(2,eP b1),(5,eP b3),(6,eS CK qG),(7,eI (bg:Int)),(8,eP b9),(9,eP b10),(10,eI Fa)]) (fun Fa=>[iL l0.aU ay.1,iL l0.bG ay.2.1,iL l0.Sections ay.2.2.1,iL l0.Links ay.2.2.2,own b1 26 (cK l0 ay),own b3 185 [vI s0.Section,vI Bz],aj 191 CK qG,own b9 183 (sN x7),own b10 185 [vI yu,vI OI]]) ?_ ?_
     ·intro Pk vR;refine sr ?_;refine oe (av 1) ?_;refine oe (aF (b:=b10)) ?_;refine oe dU ?_;refine on ?_;refine cc rfl hM (fun xQ hM=>?_) (fun xQ hM=>?_)
      ·refine bB ?_;refine oa ?_;refine bC (vR hM sS rI)
      refine aX (vR hM sS rI)
     clear hM;rintro Fa hM;dsimp only[NP] at hM ⊢;refine bB ?_;refine om ?_;refine oe (av 0) ?_;refine oe (aF (b:=b10)) ?_;refine om ?_;refine oe (gI [vI yu,vI Fa]) ?_;refine oe (av 4) ?_;refine oe (aF (b:=b9)) ?_;refine oe (av 5) ?_;refine oe (aF (b:=b9)) ?_;refine oe (gI [vI yu,vI Fa,vI x7.Point,vI x7.Pos]) ?_;refine bM (fD (α:=Hop) 191 (fun _=>()) ([(Hop.mk (Step.mk yu Fa) x7.Point x7.Pos)]:List Hop) oF (fun Kj=>?_));obtain⟨Zv,hM⟩:=bW hM;refine bM (jc (r:=CK) (r2:=Kj) uR (Kn.aj (e:=191) (r:=Kj) hA) oF (of_decide_eq_true Zv) (fun sO=>?_));refine oa ?_;refine bC (hJ3 sO hM sS rI)
    refine aX (hJ3 CK hM sS rI)
  clear hM;rintro MS Tq hM;dsimp only[Ky] at hM ⊢;refine bB ?_;refine om ?_;refine oP hM fun hM=>?_;refine oa ?_;refine bC (hL1 Tq hM sS rI)
 refine dK (hK4 _ _ ?_);clear hK4;dsimp only[abJ] at hM;refine aW ?_;refine aT ?_;obtain rfl:=some_inj hM;refine aY (mD (fun w hm=>fU CK hm rfl))
def ahj:Unit→Option (Hop×Bool):=fun _=>
 some ((Hop.mk (Step.mk 0 0) 0 0),false)
def SY(y5:(List Hop))(b0:Step)(bA:Nat→Option (Hop×Bool)):Nat→Option (Hop×Bool):=fun bg=>
 if decide ((bg:Int)<(y5.length:Int)) then
  ((idx y5 (bg:Int)).bind fun x9=>
  if decide (x9.To=b0) then
   ((idx y5 (bg:Int)).bind fun kL=>
   some (kL,true))
  else
   (bq (bJ ((bg:Int)+1))<|
   bA (bg+1)))
 else
  (ahj ())
def S9(l0:Layout)(a0:Step)(b0:Step):Option (Hop×Bool):=
 (Sr l0 a0).bind fun y5=>
 iter (SY y5 b0) FUEL 0
theorem ahk(S:bO)(w:World)(l0:Layout)(ay:aC.R Layout)(a0:Step)(b0:Step)(y:Hop×Bool)(hM:S9 l0 a0 b0=some y)(hS:sB S w)(dZ:aC.ok S w ay l0):
   Calls Tryz.prog 124 #[.agg (jN l0 ay),.agg (EO a0),.agg (EO b0)] w (dz w (.tuple #[.agg (Pn y.1),.bool y.2])):=by
 refine cu (args:=[_,_,_]) Tryz.func124 rfl ((pre_nil hS).start |>.lY dZ) rfl ?_;unfold S9 at hM;refine sr ?_;refine oB (cK l0 ay) fun b1=>?_;refine oB (o9 a0) fun b2=>?_;refine oB (o9 b0) fun b3=>?_;refine oA rfl fun b4=>?_;refine aT ?_;refine sr ?_;refine oe (bR (b:=b1)) ?_;refine oe (bR (b:=b2)) ?_;obtain⟨y5,ug,hM⟩:=bind_some hM;refine bM (fJ jM.nil (fun S w hs hP=>aqc _ w l0 ay a0 y5 ug (bf hs) ⟨(kM hs),(kM hs),(kM hs),(kM hs)⟩) gq (fun r7=>?_));dsimp only[cA,nA];refine aT ?_;refine aK fun K3 hK3=>?_;refine sr ?_;refine oa ?_
 refine on ?_;refine bH ?_;refine lq hM (fun bg=>[(5,eP b3),(6,eP b4),(8,eS r7 y5),(9,eI (bg:Int))]) (fun bg=>[own b3 92 (o9 b0),own b4 191 [vI 0,vI 0,vI 0,vI 0],aj 191 r7 y5]) sS rI ?_;clear hM;rintro bA bg hM iG hL1;dsimp only[SY] at hM ⊢;refine aK fun K5 dI=>?_;refine aW ?_;refine om ?_;refine oe bL ?_;refine oe bY ?_;refine on ?_;refine cc rfl hM (fun hc8 hM=>?_) (fun hc8 hM=>?_)
 ·refine aX (dI _ _ ?_);clear dI;refine aK fun K7 eu=>?_;refine bH ?_;refine aK fun K8 gV=>?_;refine gy _ (List.Sublist.refl _) ?_;refine ak 0 rfl aL ?_;refine ak 1 rfl aL ?_;obtain⟨x9,ni,hM⟩:=bind_some hM;refine ak 2 rfl (bD (xs:=y5) 4 (Kn.aj (e:=191) (r:=r7) hA) (iS ni)) ?_;refine ak 3 rfl (av 0) ?_;refine ak 4 rfl (fM (m:=2) (i:=(bg:Int)) (xs:=y5) (y:=x9) (l:=(o9 x9.To)) 0 (Kn.aj (e:=191) (r:=r7) hA) (fun _=>ni)) ?_;refine ak 5 rfl (bR (b:=b3)) ?_;refine ak 6 rfl (Mf [.int .i64,.int .i64] (decide (x9.To=b0)) (aiM _ _)) ?_;refine dP (gV _ _ ?_);clear gV;refine cc rfl hM (fun zL hM=>?_) (fun zL hM=>?_)
  · refine aW ?_;refine om ?_;obtain⟨kL,Cn,hM⟩:=bind_some hM;refine oe (bD (xs:=y5) 4 (Kn.aj (e:=191) (r:=r7) hA) (iS Cn)) ?_;refine oe (fM (m:=4) (i:=(bg:Int)) (xs:=y5) (y:=kL) (l:=(Rs kL)) 0 (Kn.aj (e:=191) (r:=r7) hA) (fun _=>Cn)) ?_;refine oS b4 (Rs kL) ?_;refine aT ?_;exact aY (zk hM)
  refine aX (eu _ _ ?_);clear eu;refine bB ?_;refine om ?_;refine oP hM fun hM=>?_;refine oa ?_;refine bC (hL1 hM sS rI)
 refine dK (hK3 _ _ ?_);clear hK3;dsimp only[ahj] at hM;refine sr ?_;refine oe (gI [vI 0,vI 0,vI 0,vI 0]) ?_;refine oS b4 [vI 0,vI 0,vI 0,vI 0] ?_;refine aT ?_;exact aY (zk hM)
def ab0(jA:Nat)(fE:Nat→Option Int):Unit→Option Int:=fun _=>
 bq (bJ ((jA:Int)+1))<|
 fE (jA+1)
def NW(jA:Nat)(r0:aO)(fE:Nat→Option Int)(jX:Nat→Option Int):Nat→Option Int:=fun vW=>
 if decide ((vW:Int)<(jA:Int)) then
  ((idx r0.Steps (vW:Int)).bind fun x23=>
  (idx r0.Steps (jA:Int)).bind fun x25=>
  if decide (x23.Section=x25.Section) then
   (some 5)
  else
   (bq (bJ ((vW:Int)+1))<|
   jX (vW+1)))
 else
  (ab0 jA fE ())
def WK(lV:Nat)(oH:Nat→Option Int):Bool→Option Int:=fun Ru=>
 if (!Ru) then
  (some 11)
 else
  (bq (bJ ((lV:Int)+1))<|
  oH (lV+1))
def ahf:Unit→Option Int:=fun _=>
 some 0
def SV(r0:aO)(l0:Layout)(oH:Nat→Option Int):Nat→Option Int:=fun lV=>
 if decide ((lV:Int)<(r0.Steps.length:Int)) then
  (bq (bJ ((lV:Int)-1))<|
  (idx r0.Steps ((lV:Int)-1)).bind fun x34=>
  (idx r0.Steps (lV:Int)).bind fun O1=>
  (S9 l0 x34 O1).bind fun y38=>
  WK lV oH y38.2)
 else
  (ahf ())
def WJ(r0:aO)(l0:Layout):Unit→Option Int:=fun _=>
 iter (SV r0 l0) FUEL 1
def SS(r0:aO)(l0:Layout)(fE:Nat→Option Int):Nat→Option Int:=fun jA=>
 if decide ((jA:Int)<(r0.Steps.length:Int)) then
  (iter (NW jA r0 fE) FUEL 0)
 else
  (WJ r0 l0 ())
def WI(r0:aO)(l0:Layout):Unit→Option Int:=fun _=>
 iter (SS r0 l0) FUEL 0
def SQ(r0:aO)(l0:Layout)(bA:Nat→Option Int):Nat→Option Int:=fun bg=>
 if decide ((bg:Int)<(r0.Steps.length:Int)) then
  ((idx r0.Steps (bg:Int)).bind fun x10=>
  bq (bJ ((l0.Sections.length:Int)-1))<|
  (Ez x10.Section 0 ((l0.Sections.length:Int)-1)).bind fun y13=>
  (fK (!(!y13)) default (idx r0.Steps (bg:Int))).bind fun qM=>
  (fK (!(!y13)) default (Ez qM.Dir 0 1)).bind fun DF=>
  if ((!y13)||(!DF)) then
   (some 4)
  else
   (bq (bJ ((bg:Int)+1))<|
   bA (bg+1)))
 else
  (WI r0 l0 ())
def KA(l0:Layout)(r0:aO):Option Int:=
 (Kw l0).bind fun y3=>
 if decide (y3≠0) then
  (some 1)
 else
  (if (decide (24<(r0.Steps.length:Int))||decide (2<r0.Overlap)) then
   (some 7)
  else
   (bq (!(!(decide (r0.Overlap<0)))||bJ ((r0.Steps.length:Int)-r0.Overlap))<|
   if (decide (r0.Overlap<0)||decide (((r0.Steps.length:Int)-r0.Overlap)<2)) then
    (some 4)
   else
    (iter (SQ r0 l0) FUEL 0)))
theorem ahg(S:bO)(w:World)(l0:Layout)(ay:aC.R Layout)(r0:aO)(bS:aC.R aO)(y:Int)(hM:KA l0 r0=some y)(hS:sB S w)(dZ:aC.ok S w ay l0)(qg:aC.ok S w bS r0):
   Calls Tryz.prog 65 #[.agg (jN l0 ay),.agg (xH r0 bS)] w (dz w (vI y)):=by
 refine cu (args:=[_,_]) Tryz.func65 rfl ((pre_nil hS).start |>.lY dZ|>.gW (α:=List Step) (r:=bS) (x:=r0.Steps) qg) rfl ?_;unfold KA at hM;refine sr ?_;refine oB (cK l0 ay) fun b1=>?_;refine oB (jC r0 bS) fun b2=>?_;refine aT ?_;refine aK fun K2 hK2=>?_;refine sr ?_;refine oe (bR (b:=b1)) ?_;obtain⟨y3,hy4,hM⟩:=bind_some hM;refine cv (fun hs=>abI _ _ l0 ay y3 hy4 (bf hs) ⟨(kM hs),(kM hs),(kM hs),(kM hs)⟩) ?_;refine oe gZ ?_;refine on ?_;refine cc rfl hM (fun jL hM=>?_) (fun jL hM=>?_)
 ·refine bI ?_;exact aY (bQ hM)
 refine aX (hK2 _ _ ?_);clear hK2;refine aK fun K5 dI=>?_;refine sr ?_;refine oe (av 0) ?_;refine oe (aF (b:=b2)) ?_;refine oe bL ?_;refine oe gM ?_;refine om ?_;refine aD rfl (av 1) ?_;refine aD rfl (aF (b:=b2)) ?_;refine aD rfl gM ?_;refine oe dQ ?_;refine on ?_;refine cc rfl hM (fun hc6 hM=>?_) (fun hc6 hM=>?_)
 ·refine bI ?_;exact aY (bQ hM)
 refine aX (dI _ _ ?_);clear dI;refine aK fun K8 gV=>?_;refine sr ?_;refine oe (av 1) ?_;refine oe (aF (b:=b2)) ?_;refine oe bY ?_;refine om ?_;refine aD rfl (av 0) ?_;refine aD rfl (aF (b:=b2)) ?_;refine aD rfl bL ?_;refine aD rfl (av 1) ?_;refine aD rfl (aF (b:=b2)) ?_;obtain⟨hI7,hM⟩:=bW hM;refine aD rfl (ng (hr:=fun hg=>dY (Cb hI7 hg))) ?_;refine aD rfl bY ?_;refine oe dQ ?_;refine on ?_;refine cc rfl hM (fun hc8 hM=>?_) (fun hc8 hM=>?_)
 ·refine bI ?_;exact aY (bQ hM)
 refine aX (gV _ _ ?_);clear gV;refine aK fun rQ gG=>?_;refine bI ?_;refine bH ?_;refine lq hM (fun bg=>[(2,eP b1),(3,eP b2),(5,eI (bg:Int))]) (fun bg=>[iL l0.aU ay.1,iL l0.bG ay.2.1,iL l0.Sections ay.2.2.1,iL l0.Links ay.2.2.2,own b1 26 (cK l0 ay),iL r0.Steps bS,own b2 90 (jC r0 bS)]) sS rI ?_;clear hM;rintro bA bg hM iG hL1;dsimp only[SQ] at hM ⊢;refine aK fun yD jO=>?_;refine aW ?_;refine oe (av 0) ?_;refine oe (aF (b:=b2)) ?_;refine oe bL ?_;refine oe bY ?_;refine on ?_;refine cc rfl hM (fun qV hM=>?_) (fun qV hM=>?_)
 ·refine aX (jO _ _ ?_);clear jO;refine aK fun zA jZ=>?_;refine bH ?_;refine aK fun Ba kX=>?_;refine gy _ (List.Sublist.refl _) ?_;refine ak 0 rfl (av 0) ?_;refine ak 1 rfl (aF (b:=b2)) ?_;refine ak 2 rfl aL ?_;obtain⟨x10,qW,hM⟩:=bind_some hM;refine ak 3 rfl (bD (xs:=r0.Steps) 2 (kG r0.Steps bS) (iS qW)) ?_;refine ak 4 rfl (av 0) ?_;refine ak 5 rfl (bT (i:=(bg:Int)) (xs:=r0.Steps) (y:=x10) 0 (kG r0.Steps bS) (fun _=>qW)) ?_;refine ak 6 rfl (av 2) ?_;refine ak 7 rfl (aF (b:=b1)) ?_;refine ak 8 rfl bL ?_;obtain⟨akl,hM⟩:=bW hM;refine ak 9 rfl (ng (hr:=fun hg=>dY akl)) ?_;obtain⟨y13,xS,hM⟩:=bind_some hM;refine dH 10 rfl (sV (fun hs=>NZ _ _ x10.Section 0 ((l0.Sections.length:Int)-1) y13 xS (bf hs)) ⟨rI,?_⟩);refine ak 11 rfl fq ?_;refine ak 12 rfl aL ?_;refine dO 13 rfl rfl (av 0) ?_;refine dO 14 rfl rfl (aF (b:=b2)) ?_;refine dO 15 rfl rfl aL ?_;obtain⟨qM,hx16,hM⟩:=bind_some hM;refine dO 16 rfl rfl (bD (xs:=r0.Steps) 2 (kG r0.Steps bS) (fun hg=>let h:=nH (eF hx16 hg);⟨h.1,h.2.1⟩)) ?_;refine dO 17 rfl rfl (av 1) ?_;refine dO 18 rfl rfl (bT (i:=(bg:Int)) (xs:=r0.Steps) (y:=qM) 1 (kG r0.Steps bS) (fun hg=>eF hx16 hg)) ?_
  obtain⟨DF,QN,hM⟩:=bind_some hM;refine LJ 19 rfl rfl (fun hg w hm=>let ⟨S,hs⟩:=hm;NZ _ w qM.Dir 0 1 DF (eF QN hg) (bf hs)) ?_;refine dO 20 rfl rfl fq ?_;refine ak 21 rfl dQ ?_;refine dP (kX _ _ ?_);clear kX;refine cc rfl hM (fun hc19 hM=>?_) (fun hc19 hM=>?_)
  · refine bI ?_;exact aY (bQ hM)
  refine aX (jZ _ _ ?_);clear jZ;refine bB ?_;refine om ?_;refine oP hM fun hM=>?_;refine oa ?_;refine bC (hL1 hM sS rI)
 refine dK (gG _ _ ?_);clear gG;dsimp only[WI] at hM;refine aK fun Gg pO=>?_;refine bI ?_;refine bH ?_;refine lq hM (fun jA=>[(2,eP b1),(3,eP b2),(6,eI (jA:Int))]) (fun jA=>[iL l0.aU ay.1,iL l0.bG ay.2.1,iL l0.Sections ay.2.2.1,iL l0.Links ay.2.2.2,own b1 26 (cK l0 ay),iL r0.Steps bS,own b2 90 (jC r0 bS)]) sS rI ?_;clear hM;rintro fE jA hM wH hL2;dsimp only[SS] at hM ⊢;refine aK fun I9 qR=>?_;refine aW ?_;refine oe (av 0) ?_;refine oe (aF (b:=b2)) ?_;refine oe bL ?_;refine oe bY ?_;refine on ?_;refine cc rfl hM (fun hc21 hM=>?_) (fun hc21 hM=>?_)
 ·refine aX (qR _ _ ?_);clear qR;refine aK fun Ja qU=>?_;refine bH ?_;refine bI ?_;refine bH ?_;refine lq hM (fun vW=>[(2,eP b1),(3,eP b2),(6,eI (jA:Int)),(7,eI (vW:Int))]) (fun vW=>[iL l0.aU ay.1,iL l0.bG ay.2.1,iL l0.Sections ay.2.2.1,iL l0.Links ay.2.2.2,own b1 26 (cK l0 ay),iL r0.Steps bS,own b2 90 (jC r0 bS)]) sS rI ?_;clear hM;rintro jX vW hM Gi hL3;dsimp only[NW] at hM ⊢;refine aK fun UG yM=>?_;refine aW ?_;refine om ?_;refine oe bY ?_;refine on ?_;refine cc rfl hM (fun hc22 hM=>?_) (fun hc22 hM=>?_)
  · refine aX (yM _ _ ?_);clear yM;refine aK fun LB sJ=>?_;refine bH ?_;refine aK fun UH yN=>?_;refine gy _ (List.Sublist.refl _) ?_;refine ak 0 rfl (av 0) ?_;refine ak 1 rfl (aF (b:=b2)) ?_;refine ak 2 rfl aL ?_;obtain⟨x23,hx24,hM⟩:=bind_some hM;refine ak 3 rfl (bD (xs:=r0.Steps) 2 (kG r0.Steps bS) (iS hx24)) ?_;refine ak 4 rfl (av 0) ?_;refine ak 5 rfl (bT (i:=(vW:Int)) (xs:=r0.Steps) (y:=x23) 0 (kG r0.Steps bS) (fun _=>hx24)) ?_;refine ak 6 rfl (av 0) ?_;refine ak 7 rfl (aF (b:=b2)) ?_;refine ak 8 rfl aL ?_;obtain⟨x25,yQ,hM⟩:=bind_some hM;refine ak 9 rfl (bD (xs:=r0.Steps) 2 (kG r0.Steps bS) (iS yQ)) ?_;refine ak 10 rfl (av 0) ?_;refine ak 11 rfl (bT (i:=(jA:Int)) (xs:=r0.Steps) (y:=x25) 0 (kG r0.Steps bS) (fun _=>yQ)) ?_;refine ak 12 rfl dU ?_;refine dP (yN _ _ ?_);clear yN;refine cc rfl hM (fun hc27 hM=>?_) (fun hc27 hM=>?_)
    ·refine bI ?_;exact aY (bQ hM)
    refine aX (sJ _ _ ?_);clear sJ;refine bB ?_;refine om ?_;refine oP hM fun hM=>?_;refine oa ?_;refine bC (hL3 hM sS rI)
  refine dK (qU _ _ ?_);clear qU;dsimp only[ab0] at hM;refine bB ?_;refine om ?_;refine oP hM fun hM=>?_;refine oa ?_;refine bC (hL2 hM sS rI)
 refine dK (pO _ _ ?_);clear pO;dsimp only[WJ] at hM;refine aK fun LC sK=>?_;refine bI ?_;refine bH ?_;refine lq hM (fun lV=>[(2,eP b1),(3,eP b2),(8,eI (lV:Int))]) (fun lV=>[iL l0.aU ay.1,iL l0.bG ay.2.1,iL l0.Sections ay.2.2.1,iL l0.Links ay.2.2.2,own b1 26 (cK l0 ay),iL r0.Steps bS,own b2 90 (jC r0 bS)]) sS rI ?_;clear hM;rintro oH lV hM Pm hL4;dsimp only[SV] at hM ⊢;refine aK fun UK yP=>?_;refine aW ?_;refine oe (av 0) ?_;refine oe (aF (b:=b2)) ?_;refine oe bL ?_;refine oe bY ?_;refine on ?_;refine cc rfl hM (fun D8 hM=>?_) (fun D8 hM=>?_)
 ·refine aX (yP _ _ ?_);clear yP;refine aK fun UL wN=>?_;refine bH ?_;refine jm y (k:=WK lV oH) (fun Ru=>[(2,eP b1),(3,eP b2),(8,eI (lV:Int)),(10,.v (.bool Ru))]) (fun Ru=>[iL l0.aU ay.1,iL l0.bG ay.2.1,iL l0.Sections ay.2.2.1,iL l0.Links ay.2.2.2,own b1 26 (cK l0 ay),iL r0.Steps bS,own b2 90 (jC r0 bS)]) ?_ ?_
  · intro Pk vR;refine gy _ (List.Sublist.refl _) ?_;refine ak 0 rfl (bR (b:=b1)) ?_;refine ak 1 rfl (av 0) ?_;refine ak 2 rfl (aF (b:=b2)) ?_;refine ak 3 rfl aL ?_;obtain⟨Zm,hM⟩:=bW hM;refine ak 4 rfl (ng (hr:=fun hg=>dY Zm)) ?_;obtain⟨x34,jy,hM⟩:=bind_some hM;refine ak 5 rfl (bD (xs:=r0.Steps) 2 (kG r0.Steps bS) (iS jy)) ?_;refine ak 6 rfl (fM (m:=2) (i:=((lV:Int)-1)) (xs:=r0.Steps) (y:=x34) (l:=(o9 x34)) 0 (kG r0.Steps bS) (fun _=>jy)) ?_;refine ak 7 rfl (av 0) ?_;refine ak 8 rfl (aF (b:=b2)) ?_;refine ak 9 rfl aL ?_;obtain⟨O1,aah,hM⟩:=bind_some hM;refine ak 10 rfl (bD (xs:=r0.Steps) 2 (kG r0.Steps bS) (iS aah)) ?_;refine ak 11 rfl (fM (m:=2) (i:=(lV:Int)) (xs:=r0.Steps) (y:=O1) (l:=(o9 O1)) 0 (kG r0.Steps bS) (fun _=>aah)) ?_;obtain⟨y38,hy39,hM⟩:=bind_some hM;refine mh 12 16 (⟨_,rfl,rfl,lK (fun w hm=>let ⟨S,hs⟩:=hm;ahk _ w l0 ay x34 O1 y38 hy39 (bf hs) ⟨(kM hs),(kM hs),(kM hs),(kM hs)⟩) ⟨rI,?_⟩⟩) (⟨_,rfl,rfl,iw rfl (k:=fun DU=>⟨rI,?_⟩)⟩)
    ·refine ak 13 rfl aL ?_;refine ak 14 rfl (jv (vs:=[.agg (Pn y38.1),.bool y38.2])) ?_;refine ak 15 rfl (jv (vs:=[.agg (Pn y38.1),.bool y38.2])) ?_;refine aA 16 rfl rfl fun Je=>?_;refine aS 17 rfl Je (Rs y38.1) ?_;refine ak 18 rfl dD ?_;refine dP (vR hM sS rI)
    refine dH 12 rfl (sV (fun hs=>ahk _ _ l0 ay x34 O1 y38 hy39 (bf hs) ⟨(kM hs),(kM hs),(kM hs),(kM hs)⟩) ⟨rI,?_⟩);refine ak 13 rfl aL ?_;refine ak 14 rfl (jv (vs:=[.agg (Pn y38.1),.bool y38.2])) ?_;refine ak 15 rfl (jv (vs:=[.agg (Pn y38.1),.bool y38.2])) ?_;refine aS 17 rfl DU (Rs y38.1) ?_;refine ak 18 rfl dD ?_;refine dP (vR hM sS rI)
  clear hM;rintro Ru hM;dsimp only[WK] at hM ⊢;refine aW ?_;refine oe fq ?_;refine on ?_;refine cc rfl hM (fun hc31 hM=>?_) (fun hc31 hM=>?_)
  · refine bI ?_;exact aY (bQ hM)
  refine aX (wN _ _ ?_);clear wN;refine bB ?_;refine om ?_;refine oP hM fun hM=>?_;refine oa ?_;refine bC (hL4 hM sS rI)
 refine dK (sK _ _ ?_);clear sK;dsimp only[ahf] at hM;refine bI ?_;exact aY (bQ hM)
def KE(p0:Plan)(jS:Int)(hi0:Int):Option Bool:=
 some (((decide (0≤jS)&&decide (jS≤hi0))&&decide (hi0<(IntKind.i64.wrap (jS+p0.bU))))&&decide (hi0≤7200))
theorem ab5(S:bO)(w:World)(p0:Plan)(ah:aC.R Plan)(jS:Int)(hi0:Int)(y:Bool)(hM:KE p0 jS hi0=some y)(hS:sB S w)(fT:aC.ok S w ah p0):
  Calls Tryz.prog 125 #[.agg (iV p0 ah),vI jS,vI hi0] w (dz w (.bool y)):=by
 refine cu (args:=[_,_,_]) Tryz.func125 rfl ((pre_nil hS).start |>.nS fT) rfl ?_;unfold KE at hM;refine sr ?_;refine oB (dh p0 ah) fun b1=>?_;refine aT ?_;refine aW ?_;refine oe jK ?_;refine om ?_;refine aD rfl aL ?_;refine aD rfl aL ?_;refine aD rfl oI ?_;refine oe dG ?_;refine om ?_;refine aD rfl aL ?_;refine aD rfl aL ?_
 refine aD rfl (av 0) ?_;refine aD rfl (aF (b:=b1)) ?_;refine aD rfl Me ?_;refine aD rfl bY ?_;refine oe dG ?_;refine om ?_;refine aD rfl aL ?_;refine aD rfl oI ?_;refine oe dG ?_;refine aT ?_;exact aY (bQ hM)
def abZ(bg:Nat)(bA:((List Cell)×Nat)→Option ((List Cell)×Int×Int))(Ef:List Cell):Unit→Option ((List Cell)×Int×Int):=fun _=>
 bq (bJ ((bg:Int)+1))<|
 bA (Ef,bg+1)
def SL(kL:Section)(Ca:Int)(bg:Nat)(bA:((List Cell)×Nat)→Option ((List Cell)×Int×Int))(fE:((List Cell)×Nat)→Option ((List Cell)×Int×Int)):((List Cell)×Nat)→Option ((List Cell)×Int×Int):=fun (Ef,eD)=>
 if decide ((eD:Int)<kL.Length) then
  (bq (decide ((Ef.length+([(Cell.mk kL.Limit Ca)]:List Cell).length)*16≤140737488355328))<|
  bq (bJ ((eD:Int)+1))<|
  fE ((Ef++([(Cell.mk kL.Limit Ca)]:List Cell)),eD+1))
 else
  (abZ bg bA Ef ())
def H9(kL:Section)(bg:Nat)(bA:((List Cell)×Nat)→Option ((List Cell)×Int×Int))(wS:List Cell):Int→Option ((List Cell)×Int×Int):=fun Ca=>
 iter (SL kL Ca bg bA) FUEL (wS,0)
def abY(wS:List Cell)(r0:aO)(l0:Layout):Unit→Option ((List Cell)×Int×Int):=fun _=>
 if decide (4000<(wS.length:Int)) then
  (some (([]:List Cell),0,7))
 else
  ((idx r0.Steps 0).bind fun x27=>
  (idx l0.Sections x27.Section).bind fun x29=>
  some (wS,x29.Length,0))
def SK(r0:aO)(l0:Layout)(bA:((List Cell)×Nat)→Option ((List Cell)×Int×Int)):((List Cell)×Nat)→Option ((List Cell)×Int×Int):=fun (wS,bg)=>
 bq (bJ ((r0.Steps.length:Int)-r0.Overlap))<|
 if decide ((bg:Int)<((r0.Steps.length:Int)-r0.Overlap)) then
  ((idx r0.Steps (bg:Int)).bind fun x10=>
  (idx l0.Sections x10.Section).bind fun kL=>
  (idx r0.Steps (bg:Int)).bind fun x21=>
  if decide (x21.Dir=1) then
   (bq (bJ (-kL.jQ))<|
   H9 kL bg bA wS (-kL.jQ))
  else
   (H9 kL bg bA wS kL.jQ))
 else
  (abY wS r0 l0 ())
def SN(l0:Layout)(r0:aO):Option ((List Cell)×Int×Int):=
 (KA l0 r0).bind fun y3=>
 if decide (y3≠0) then
  (some (([]:List Cell),0,y3))
 else
  (iter (SK r0 l0) FUEL (([]:List Cell),0))
theorem aqk(S:bO)(w:World)(l0:Layout)(ay:aC.R Layout)(r0:aO)(bS:aC.R aO)(y:(List Cell)×Int×Int)(hM:SN l0 r0=some y)(hS:sB S w)(dZ:aC.ok S w ay l0)(qg:aC.ok S w bS r0):
   Calls Tryz.prog 169 #[.agg (jN l0 ay),.agg (xH r0 bS)] w (Post (β:=(aC.R (List Cell))) S [] (fun g=> .tuple #[sL g y.1,vI y.2.1,vI y.2.2]) (fun g=>[aj 254 g y.1]) w):=by
 refine cu (args:=[_,_]) Tryz.func169 rfl ((pre_nil hS).start |>.lY dZ|>.gW (α:=List Step) (r:=bS) (x:=r0.Steps) qg) rfl ?_;unfold SN at hM;refine sr ?_;refine oB (cK l0 ay) fun b1=>?_;refine oB (jC r0 bS) fun b2=>?_;refine oa ?_;refine oa ?_;refine aT ?_;refine aK fun K2 hK2=>?_;refine sr ?_;refine oe (bR (b:=b1)) ?_;refine oe (bR (b:=b2)) ?_;obtain⟨y3,hy4,hM⟩:=bind_some hM;refine cv (fun hs=>ahg _ _ l0 ay r0 bS y3 hy4 (bf hs) ⟨(kM hs),(kM hs),(kM hs),(kM hs)⟩ (kM hs)) ?_;refine aT ?_;refine aW ?_;refine oe gZ ?_;refine on ?_
 refine cc rfl hM (fun jL hM=>?_) (fun jL hM=>?_)
 ·refine aW ?_;refine oa ?_;refine oa ?_;refine aT ?_;refine cZ (fun w hm=>hm.dR (α:=Cell) 254 (fun _=>())) ?_;obtain rfl:=some_inj hM;refine aY (yT (fun w hm=>fU Eo hm rfl))
 refine aX (hK2 _ _ ?_);clear hK2;refine bI ?_;refine aK fun K7 eu=>?_;refine bI ?_;refine bH ?_;refine cZ (fun w hm=>hm.dR (α:=Cell) 254 (fun _=>())) ?_;refine lp Eo hM (fun (wS,bg) H6=>[(2,eP b1),(3,eP b2),(8,eS H6 wS),(9,eI (bg:Int))]) (fun (wS,bg) H6=>[iL l0.aU ay.1,iL l0.bG ay.2.1,iL l0.Sections ay.2.2.1,iL l0.Links ay.2.2.2,own b1 26 (cK l0 ay),iL r0.Steps bS,own b2 90 (jC r0 bS),aj 254 H6 wS]) sS rI ?_;clear hM;rintro bA ⟨wS,bg⟩ H6 hM iG hL1;dsimp only[SK] at hM ⊢;refine aK fun K9 gB=>?_;refine aW ?_;refine oe (av 0) ?_;refine oe (aF (b:=b2)) ?_;refine oe bL ?_;refine oe (av 1) ?_
 refine oe (aF (b:=b2)) ?_;refine oN hM fun hM=>?_;refine oe bY ?_;refine on ?_;refine cc rfl hM (fun qV hM=>?_) (fun qV hM=>?_)
 ·refine aX (gB _ _ ?_);clear gB;refine aK fun rQ gG=>?_;refine bH ?_;refine aK fun zy jY=>?_;refine gy _ (List.Sublist.refl _) ?_;refine ak 0 rfl (av 2) ?_;refine ak 1 rfl (aF (b:=b1)) ?_;refine ak 2 rfl (av 0) ?_;refine ak 3 rfl (aF (b:=b2)) ?_;refine ak 4 rfl aL ?_;obtain⟨x10,qW,hM⟩:=bind_some hM;refine ak 5 rfl (bD (xs:=r0.Steps) 2 (kG r0.Steps bS) (iS qW)) ?_;refine ak 6 rfl (av 0) ?_;refine ak 7 rfl (bT (i:=(bg:Int)) (xs:=r0.Steps) (y:=x10) 0 (kG r0.Steps bS) (fun _=>qW)) ?_;obtain⟨kL,Cn,hM⟩:=bind_some hM;refine ak 8 rfl (bD (xs:=l0.Sections) 5 (kG l0.Sections ay.2.2.1) (iS Cn)) ?_;refine ak 9 rfl (fM (m:=5) (i:=x10.Section) (xs:=l0.Sections) (y:=kL) (l:=(Ae kL)) 0 (kG l0.Sections ay.2.2.1) (fun _=>Cn)) ?_;refine aA 10 rfl rfl fun b14=>?_;refine aS 11 rfl b14 (Ae kL) ?_;refine dP (jY _ _ ?_);clear jY;refine sr ?_
  refine oe (av 3) ?_;refine oe (aF (b:=b14)) ?_;refine aT ?_;refine jm y (k:=H9 kL bg bA wS) (fun Ca=>[(2,eP b1),(3,eP b2),(8,eS H6 wS),(9,eI (bg:Int)),(10,eP b14),(11,eI Ca)]) (fun Ca=>[iL l0.aU ay.1,iL l0.bG ay.2.1,iL l0.Sections ay.2.2.1,iL l0.Links ay.2.2.2,own b1 26 (cK l0 ay),iL r0.Steps bS,own b2 90 (jC r0 bS),aj 254 H6 wS,own b14 81 (Ae kL)]) ?_ ?_
  · intro Gh hJ3;refine sr ?_;refine oe (av 0) ?_;refine oe (aF (b:=b2)) ?_;refine om ?_;obtain⟨x21,QF,hM⟩:=bind_some hM;refine oe (bD (xs:=r0.Steps) 2 (kG r0.Steps bS) (iS QF)) ?_;refine oe (av 1) ?_;refine oe (bT (i:=(bg:Int)) (xs:=r0.Steps) (y:=x21) 1 (kG r0.Steps bS) (fun _=>QF)) ?_;refine oe dU ?_;refine on ?_;refine cc rfl hM (fun Jw hM=>?_) (fun Jw hM=>?_)
    ·refine bB ?_;refine om ?_;obtain⟨akL,hM⟩:=bW hM;refine oe (Vd (hr:=fun hg=>dY akL)) ?_;refine oa ?_;refine bC (hJ3 hM sS rI)
    refine aX (hJ3 hM sS rI)
  clear hM;rintro Ca hM;dsimp only[H9] at hM ⊢;refine bI ?_;refine bH ?_;refine lp H6 hM (fun (Ef,eD) NI=>[(2,eP b1),(3,eP b2),(8,eS NI Ef),(9,eI (bg:Int)),(10,eP b14),(11,eI Ca),(12,eI (eD:Int))]) (fun (Ef,eD) NI=>[iL l0.aU ay.1,iL l0.bG ay.2.1,iL l0.Sections ay.2.2.1,iL l0.Links ay.2.2.2,own b1 26 (cK l0 ay),iL r0.Steps bS,own b2 90 (jC r0 bS),aj 254 NI Ef,own b14 81 (Ae kL)]) sS rI ?_;clear hM;rintro fE ⟨Ef,eD⟩ NI hM wH hL2;dsimp only[SL] at hM ⊢;refine aK fun zA jZ=>?_;refine aW ?_;refine oe (av 1) ?_;refine oe (aF (b:=b14)) ?_;refine oe bY ?_
  refine on ?_;refine cc rfl hM (fun xQ hM=>?_) (fun xQ hM=>?_)
  · refine aX (jZ _ _ ?_);clear jZ;refine aK fun LA sI=>?_;refine bH ?_;refine bB ?_;refine om ?_;refine oe (av 2) ?_;refine oe (aF (b:=b14)) ?_;refine om ?_;refine oe (gI [vI kL.Limit,vI Ca]) ?_;refine bM (fD (α:=Cell) 254 (fun _=>()) ([(Cell.mk kL.Limit Ca)]:List Cell) oF (fun r16=>?_));obtain⟨Jv,hM⟩:=bW hM;refine bM (jc (r:=NI) (r2:=r16) uR (Kn.aj (e:=254) (r:=r16) hA) oF (of_decide_eq_true Jv) (fun dJ=>?_));refine oa ?_;refine bC (sI _ _ ?_);clear sI;refine bB ?_;refine om ?_;refine oP hM fun hM=>?_;refine oa ?_;refine bC (hL2 dJ hM sS rI)
  refine dK (gG _ _ ?_);clear gG;dsimp only[abZ] at hM;refine bB ?_;refine om ?_;refine oP hM fun hM=>?_;refine oa ?_;refine bC (hL1 NI hM sS rI)
 refine dK (eu _ _ ?_);clear eu;dsimp only[abY] at hM;refine aK fun EN nX=>?_;refine aW ?_;refine oe bL ?_;refine oe gM ?_;refine on ?_;refine cc rfl hM (fun hc25 hM=>?_) (fun hc25 hM=>?_)
 ·refine sr ?_;refine oa ?_;refine oa ?_;refine aT ?_;refine cZ (fun w hm=>hm.dR (α:=Cell) 254 (fun _=>())) ?_;obtain rfl:=some_inj hM;refine aY (yT (fun w hm=>fU Eo hm rfl))
 refine aX (nX _ _ ?_);clear nX;refine aK fun Ja qU=>?_;refine gy _ (List.Sublist.refl _) ?_;refine ak 0 rfl aL ?_;refine ak 1 rfl (av 2) ?_;refine ak 2 rfl (aF (b:=b1)) ?_;refine ak 3 rfl (av 0) ?_;refine ak 4 rfl (aF (b:=b2)) ?_;obtain⟨x27,hx28,hM⟩:=bind_some hM;refine ak 5 rfl (bD (xs:=r0.Steps) 2 (kG r0.Steps bS) (iS hx28)) ?_;refine ak 6 rfl (av 0) ?_;refine ak 7 rfl (bT (i:=0) (xs:=r0.Steps) (y:=x27) 0 (kG r0.Steps bS) (fun _=>hx28)) ?_;obtain⟨x29,ae0,hM⟩:=bind_some hM;refine ak 8 rfl (bD (xs:=l0.Sections) 5 (kG l0.Sections ay.2.2.1) (iS ae0)) ?_;refine ak 9 rfl (av 1) ?_;refine ak 10 rfl (bT (i:=x27.Section) (xs:=l0.Sections) (y:=x29) 1 (kG l0.Sections ay.2.2.1) (fun _=>ae0)) ?_;refine ak 11 rfl dD ?_;refine ak 12 rfl dD ?_;refine ak 13 rfl dD ?_;refine dP (qU _ _ ?_);clear qU;obtain rfl:=some_inj hM;refine aY (yT (fun w hm=>fU H6 hm rfl))
def ahi:Unit→Option Int:=fun _=>
 some 0
def WL(r0:aO)(l0:Layout)(s0:aH)(bA:Nat→Option Int):Nat→Option Int:=fun bg=>
 bq (bJ ((r0.Steps.length:Int)-r0.Overlap))<|
 if decide ((bg:Int)<((r0.Steps.length:Int)-r0.Overlap)) then
  ((idx r0.Steps (bg:Int)).bind fun l7=>
  (idx l0.Sections l7.Section).bind fun qM=>
  if decide (qM.Length<(if s0.Length>2 then s0.Length else 2)) then
   (some 12)
  else
   (bq (bJ ((bg:Int)+1))<|
   bA (bg+1)))
 else
  (ahi ())
def SX(l0:Layout)(r0:aO)(s0:aH):Option Int:=
 (SN l0 r0).bind fun y4=>
 if decide (y4.2.2≠0) then
  (some y4.2.2)
 else
  ((NY s0).bind fun y8=>
  if (!y8) then
   (some 1)
  else
   (iter (WL r0 l0 s0) FUEL 0))
theorem aql(S:bO)(w:World)(l0:Layout)(ay:aC.R Layout)(r0:aO)(bS:aC.R aO)(s0:aH)(y:Int)(hM:SX l0 r0 s0=some y)(hS:sB S w)(dZ:aC.ok S w ay l0)(qg:aC.ok S w bS r0):
   Calls Tryz.prog 126 #[.agg (jN l0 ay),.agg (xH r0 bS),.agg (Jc s0)] w (dz w (vI y)):=by
 refine cu (args:=[_,_,_]) Tryz.func126 rfl ((pre_nil hS).start |>.lY dZ|>.gW (α:=List Step) (r:=bS) (x:=r0.Steps) qg) rfl ?_;unfold SX at hM;refine sr ?_;refine oB (cK l0 ay) fun b1=>?_;refine oB (jC r0 bS) fun b2=>?_;refine oB (ru s0) fun b3=>?_;refine aT ?_;refine aK fun K2 hK2=>?_;refine sr ?_;refine oe (bR (b:=b1)) ?_;refine oe (bR (b:=b2)) ?_;obtain⟨y4,Fy,hM⟩:=bind_some hM;refine bM (fJ jM.nil (fun S w hs hP=>aqk _ w l0 ay r0 bS y4 Fy (bf hs) ⟨(kM hs),(kM hs),(kM hs),(kM hs)⟩ (kM hs)) gq (fun r6=>?_));dsimp only[cA,nA];refine om ?_;refine oe (jv (vs:=[sL r6 y4.1,vI y4.2.1,vI y4.2.2])) ?_
 refine oe (jv (vs:=[sL r6 y4.1,vI y4.2.1,vI y4.2.2])) ?_;refine oe (jv (vs:=[sL r6 y4.1,vI y4.2.1,vI y4.2.2])) ?_;refine oa ?_;refine oa ?_;refine aT ?_;refine aW ?_;refine oe gZ ?_;refine on ?_;refine cc rfl hM (fun oJ hM=>?_) (fun oJ hM=>?_)
 ·refine aW ?_;refine aT ?_;exact aY (bQ hM)
 refine aX (hK2 _ _ ?_);clear hK2;refine aK fun K6 dn=>?_;refine sr ?_;refine oe (bR (b:=b3)) ?_;obtain⟨y8,uh,hM⟩:=bind_some hM;refine cv (fun hs=>ahh _ _ s0 y8 uh (bf hs)) ?_;refine oe fq ?_;refine on ?_;refine cc rfl hM (fun wO hM=>?_) (fun wO hM=>?_)
 ·refine bI ?_;exact aY (bQ hM)
 refine aX (dn _ _ ?_);clear dn;refine aK fun K9 gB=>?_;refine bI ?_;refine bH ?_;refine lq hM (fun bg=>[(3,eP b1),(4,eP b2),(5,eP b3),(10,eI (bg:Int))]) (fun bg=>[iL l0.aU ay.1,iL l0.bG ay.2.1,iL l0.Sections ay.2.2.1,iL l0.Links ay.2.2.2,own b1 26 (cK l0 ay),iL r0.Steps bS,own b2 90 (jC r0 bS),own b3 71 (ru s0)]) sS rI ?_;clear hM;rintro bA bg hM iG hL1;dsimp only[WL] at hM ⊢;refine aK fun rQ gG=>?_;refine aW ?_;refine oe (av 0) ?_;refine oe (aF (b:=b2)) ?_;refine oe bL ?_;refine oe (av 1) ?_;refine oe (aF (b:=b2)) ?_;refine oN hM fun hM=>?_;refine oe bY ?_
 refine on ?_;refine cc rfl hM (fun qD hM=>?_) (fun qD hM=>?_)
 ·refine aX (gG _ _ ?_);clear gG;refine aK fun yD jO=>?_;refine bH ?_;refine aK fun BN mq=>?_;refine gy _ (List.Sublist.refl _) ?_;refine ak 0 rfl (av 2) ?_;refine ak 1 rfl (aF (b:=b1)) ?_;refine ak 2 rfl (av 0) ?_;refine ak 3 rfl (aF (b:=b2)) ?_;refine ak 4 rfl aL ?_;obtain⟨l7,uT,hM⟩:=bind_some hM;refine ak 5 rfl (bD (xs:=r0.Steps) 2 (kG r0.Steps bS) (iS uT)) ?_;refine ak 6 rfl (av 0) ?_;refine ak 7 rfl (bT (i:=(bg:Int)) (xs:=r0.Steps) (y:=l7) 0 (kG r0.Steps bS) (fun _=>uT)) ?_;obtain⟨qM,hx16,hM⟩:=bind_some hM;refine ak 8 rfl (bD (xs:=l0.Sections) 5 (kG l0.Sections ay.2.2.1) (iS hx16)) ?_;refine ak 9 rfl (av 1) ?_;refine ak 10 rfl (bT (i:=l7.Section) (xs:=l0.Sections) (y:=qM) 1 (kG l0.Sections ay.2.2.1) (fun _=>hx16)) ?_;refine ak 11 rfl (av 1) ?_;refine ak 12 rfl (aF (b:=b3)) ?_;refine ak 13 rfl Y8 ?_;refine ak 14 rfl bY ?_;refine dP (mq _ _ ?_);clear mq;refine cc rfl hM (fun hc17 hM=>?_) (fun hc17 hM=>?_)
  · refine bI ?_;exact aY (bQ hM)
  refine aX (jO _ _ ?_);clear jO;refine bB ?_;refine om ?_;refine oP hM fun hM=>?_;refine oa ?_;refine bC (hL1 hM sS rI)
 refine dK (gB _ _ ?_);clear gB;dsimp only[ahi] at hM;refine bI ?_;exact aY (bQ hM)
def KC(r0:aO):Option Int:=
 (idx r0.Steps 0).bind fun x2=>
 some x2.Section
theorem ab3(S:bO)(w:World)(r0:aO)(bS:aC.R aO)(y:Int)(hM:KC r0=some y)(hS:sB S w)(qg:aC.ok S w bS r0):
  Calls Tryz.prog 127 #[.agg (xH r0 bS)] w (dz w (vI y)):=by
 refine cu (args:=[_]) Tryz.func127 rfl ((pre_nil hS).start |>.gW (α:=List Step) (r:=bS) (x:=r0.Steps) qg) rfl ?_;unfold KC at hM;refine sr ?_;refine oB (jC r0 bS) fun b1=>?_;refine aT ?_;refine sr ?_;refine oe (av 0) ?_;refine oe (aF (b:=b1)) ?_;obtain⟨x2,hx3,hM⟩:=bind_some hM;refine oe (bD (xs:=r0.Steps) 2 (kG r0.Steps bS) (iS hx3)) ?_;refine oe (av 0) ?_;refine oe (bT (i:=0) (xs:=r0.Steps) (y:=x2) 0 (kG r0.Steps bS) (fun _=>hx3)) ?_;refine aT ?_;exact aY (bQ hM)
def KD(r0:aO):Option Int:=
 bq (bJ ((r0.Steps.length:Int)-r0.Overlap))<|
 bq (bJ (((r0.Steps.length:Int)-r0.Overlap)-1))<|
 (idx r0.Steps (((r0.Steps.length:Int)-r0.Overlap)-1)).bind fun x4=>
 some x4.Section
theorem ab4(S:bO)(w:World)(r0:aO)(bS:aC.R aO)(y:Int)(hM:KD r0=some y)(hS:sB S w)(qg:aC.ok S w bS r0):
  Calls Tryz.prog 128 #[.agg (xH r0 bS)] w (dz w (vI y)):=by
 refine cu (args:=[_]) Tryz.func128 rfl ((pre_nil hS).start |>.gW (α:=List Step) (r:=bS) (x:=r0.Steps) qg) rfl ?_;unfold KD at hM;refine sr ?_;refine oB (jC r0 bS) fun b1=>?_;refine aT ?_;refine sr ?_;refine oe (av 0) ?_;refine oe (aF (b:=b1)) ?_;refine oe (av 0) ?_;refine oe (aF (b:=b1)) ?_;refine oe bL ?_;refine oe (av 1) ?_;refine oe (aF (b:=b1)) ?_;refine oN hM fun hM=>?_;refine oN hM fun hM=>?_;obtain⟨x4,hx5,hM⟩:=bind_some hM;refine oe (bD (xs:=r0.Steps) 2 (kG r0.Steps bS) (iS hx5)) ?_;refine oe (av 0) ?_;refine oe (bT (i:=(((r0.Steps.length:Int)-r0.Overlap)-1)) (xs:=r0.Steps) (y:=x4) 0 (kG r0.Steps bS) (fun _=>hx5)) ?_;refine aT ?_;exact aY (bQ hM)
def aho:Unit→Option Int:=fun _=>
 some 0
def Tm(x3:Line)(p0:Plan)(l0:Layout)(fE:Nat→Option Int):Nat→Option Int:=fun eD=>
 if decide ((eD:Int)<(x3.aJ.length:Int)) then
  ((idx x3.aJ (eD:Int)).bind fun mW=>
  bq (bJ ((x3.aJ.length:Int)-1))<|
  bq (bJ ((p0.Routes.length:Int)-1))<|
  (rO mW.aO 0 ((p0.Routes.length:Int)-1)).bind fun y27=>
  bq (!(!(!y27))||bJ (p0.bU-1))<|
  (fK (!(!y27)) default (rO mW.Extra 0 (p0.bU-1))).bind fun qx=>
  (fK (!((!y27)||(!qx))) default (KE p0 mW.Min mW.Max)).bind fun y32=>
  if ((((!y27)||(!qx))||(!y32))||(decide ((eD:Int)=((x3.aJ.length:Int)-1))&&(decide (mW.Min≠0)||decide (mW.Max≠0)))) then
   (some 4)
  else
   ((idx p0.Routes mW.aO).bind fun wE=>
   (idx p0.aR x3.aH).bind fun Uz=>
   (SX l0 wE Uz).bind fun y39=>
   if decide (y39≠0) then
    (some y39)
   else
    ((fK (decide (0<(eD:Int))) default (idx p0.Routes mW.aO)).bind fun gY=>
    if decide (0<(eD:Int)) then
    (bq (bJ ((eD:Int)-1))<|
    (idx x3.aJ ((eD:Int)-1)).bind fun zw=>
    (idx p0.Routes zw.aO).bind fun UD=>
    (KC gY).bind fun y51=>
    (KD UD).bind fun jJ=>
    if (decide (0<(eD:Int))&&decide (y51≠jJ)) then
     (some 11)
    else
     (bq (bJ ((eD:Int)+1))<|
     fE (eD+1)))
    else
    (bq (bJ ((eD:Int)+1))<|
    fE (eD+1)))))
 else
  (aho ())
def Xc(p0:Plan)(x3:Line)(l0:Layout):Unit→Option Int:=fun _=>
 bq (bJ ((p0.aR.length:Int)-1))<|
 (rO x3.aH 0 ((p0.aR.length:Int)-1)).bind fun oZ=>
 (fK (!(!oZ)) default (rO x3.Weight 0 1048576)).bind fun DF=>
 if ((!oZ)||(!DF)) then
  (some 4)
 else
  (if decide ((x3.aJ.length:Int)=0) then
   (some 1)
  else
   (iter (Tm x3 p0 l0) FUEL 0))
def Xb(i0:Int)(p0:Plan)(x3:Line)(l0:Layout)(bA:Nat→Option Int):Nat→Option Int:=fun kg=>
 if decide ((kg:Int)<i0) then
  ((idx p0.Lines (kg:Int)).bind fun x10=>
  if decide (x10.Name=x3.Name) then
   (some 5)
  else
   (bq (bJ ((kg:Int)+1))<|
   bA (kg+1)))
 else
  (Xc p0 x3 l0 ())
def Oj(l0:Layout)(p0:Plan)(i0:Int):Option Int:=
 (idx p0.Lines i0).bind fun x3=>
 (Kz x3.Name).bind fun y6=>
 if (!y6) then
  (some 3)
 else
  (iter (Xb i0 p0 x3 l0) FUEL 0)
theorem aqp(S:bO)(w:World)(l0:Layout)(ay:aC.R Layout)(p0:Plan)(ah:aC.R Plan)(i0:Int)(y:Int)(hM:Oj l0 p0 i0=some y)(hS:sB S w)(dZ:aC.ok S w ay l0)(fT:aC.ok S w ah p0):
   Calls Tryz.prog 66 #[.agg (jN l0 ay),.agg (iV p0 ah),vI i0] w (dz w (vI y)):=by
 refine cu (args:=[_,_,_]) Tryz.func66 rfl ((pre_nil hS).start |>.lY dZ|>.nS fT) rfl ?_;unfold Oj at hM;refine sr ?_;refine oB (cK l0 ay) fun b1=>?_;refine oB (dh p0 ah) fun b2=>?_
 refine aT ?_;refine sr ?_;refine oe (av 3) ?_;refine oe (aF (b:=b2)) ?_;refine om ?_;obtain⟨x3,hx4,hM⟩:=bind_some hM;refine oe (bD (xs:=p0.Lines) 4 (kG p0.Lines ah.2.2.1) (iS hx4)) ?_;refine oe (fM (m:=4) (i:=i0) (xs:=p0.Lines) (y:=x3) (l:=(kZ x3 (ah.2.2.1.es i0.toNat))) 0 (kG p0.Lines ah.2.2.1) (fun _=>hx4)) ?_;refine oA rfl fun b5=>?_;refine oS b5 (kZ x3 (ah.2.2.1.es i0.toNat)) ?_;refine on ?_;refine aK fun K3 hK3=>?_;refine sr ?_;refine oe (av 0) ?_;refine oe (aF (b:=b5)) ?_;obtain⟨y6,qh,hM⟩:=bind_some hM;refine cv (fun hs=>abL _ _ x3.Name y6 qh (bf hs)) ?_;refine oe fq ?_;refine on ?_;refine cc rfl hM (fun hc8 hM=>?_) (fun hc8 hM=>?_)
 ·refine bI ?_;exact aY (bQ hM)
 refine aX (hK3 _ _ ?_);clear hK3;refine aK fun K6 dn=>?_;refine bI ?_;refine bH ?_;refine lq hM (fun kg=>[(2,eI i0),(3,eP b1),(4,eP b2),(7,eP b5),(8,eI (kg:Int))]) (fun kg=>[iL l0.aU ay.1,iL l0.bG ay.2.1,iL l0.Sections ay.2.2.1,iL l0.Links ay.2.2.2,own b1 26 (cK l0 ay),iL p0.aR ah.1,iL p0.Routes ah.2.1,iL p0.Lines ah.2.2.1,iL p0.Changes ah.2.2.2.1,iL p0.Turns ah.2.2.2.2.1,iL p0.bE ah.2.2.2.2.2.1,iL p0.bF ah.2.2.2.2.2.2,own b2 35 (dh p0 ah),own b5 56 (kZ x3 (ah.2.2.1.es i0.toNat))]) sS rI ?_
 clear hM;rintro bA kg hM iG hL1;dsimp only[Xb] at hM ⊢;refine aK fun K8 gV=>?_;refine aW ?_;refine om ?_;refine oe bY ?_;refine on ?_;refine cc rfl hM (fun qV hM=>?_) (fun qV hM=>?_)
 ·refine aX (gV _ _ ?_);clear gV;refine aK fun tK gU=>?_;refine bH ?_;refine aK fun rQ gG=>?_;refine gy _ (List.Sublist.refl _) ?_;refine ak 0 rfl (av 3) ?_;refine ak 1 rfl (aF (b:=b2)) ?_;refine ak 2 rfl aL ?_;obtain⟨x10,qW,hM⟩:=bind_some hM;refine ak 3 rfl (bD (xs:=p0.Lines) 4 (kG p0.Lines ah.2.2.1) (iS qW)) ?_;refine ak 4 rfl (av 0) ?_;refine ak 5 rfl (bT (i:=(kg:Int)) (xs:=p0.Lines) (y:=x10) 0 (kG p0.Lines ah.2.2.1) (fun _=>qW)) ?_;refine ak 6 rfl (av 0) ?_;refine ak 7 rfl (aF (b:=b5)) ?_;refine ak 8 rfl xJ ?_;refine dP (gG _ _ ?_);clear gG;refine cc rfl hM (fun qD hM=>?_) (fun qD hM=>?_)
  · refine bI ?_;exact aY (bQ hM)
  refine aX (gU _ _ ?_);clear gU;refine bB ?_;refine om ?_;refine oP hM fun hM=>?_;refine oa ?_;refine bC (hL1 hM sS rI)
 refine dK (dn _ _ ?_);clear dn;dsimp only[Xc] at hM;refine aK fun yD jO=>?_;refine sr ?_;refine oe (av 1) ?_;refine oe (aF (b:=b5)) ?_;refine oe (av 1) ?_;refine oe (aF (b:=b2)) ?_;refine oe bL ?_;refine oN hM fun hM=>?_;obtain⟨oZ,QM,hM⟩:=bind_some hM;refine cv (fun hs=>zh _ _ x3.aH 0 ((p0.aR.length:Int)-1) oZ QM (bf hs)) ?_;refine oe fq ?_;refine om ?_;refine aD rfl (av 2) ?_;refine aD rfl (aF (b:=b5)) ?_;obtain⟨DF,QN,hM⟩:=bind_some hM;refine cg rfl (fun hg hs=>zh _ _ x3.Weight 0 1048576 DF (eF QN hg) (bf hs)) ?_;refine aD rfl fq ?_;refine oe dQ ?_;refine on ?_;refine cc rfl hM (fun hc19 hM=>?_) (fun hc19 hM=>?_)
 ·refine bI ?_;exact aY (bQ hM)
 refine aX (jO _ _ ?_);clear jO;refine aK fun Ba kX=>?_;refine sr ?_;refine oe (av 3) ?_;refine oe (aF (b:=b5)) ?_;refine oe bL ?_;refine oe dU ?_;refine on ?_;refine cc rfl hM (fun D7 hM=>?_) (fun D7 hM=>?_)
 ·refine bI ?_;exact aY (bQ hM)
 refine aX (kX _ _ ?_);clear kX;refine aK fun EN nX=>?_;refine bI ?_;refine bH ?_;refine lq hM (fun eD=>[(3,eP b1),(4,eP b2),(7,eP b5),(9,eI (eD:Int))]) (fun eD=>[iL l0.aU ay.1,iL l0.bG ay.2.1,iL l0.Sections ay.2.2.1,iL l0.Links ay.2.2.2,own b1 26 (cK l0 ay),iL p0.aR ah.1,iL p0.Routes ah.2.1,iL p0.Lines ah.2.2.1,iL p0.Changes ah.2.2.2.1,iL p0.Turns ah.2.2.2.2.1,iL p0.bE ah.2.2.2.2.2.1,iL p0.bF ah.2.2.2.2.2.2,own b2 35 (dh p0 ah),own b5 56 (kZ x3 (ah.2.2.1.es i0.toNat))]) sS rI ?_
 clear hM;rintro fE eD hM wH hL2;dsimp only[Tm] at hM ⊢;refine aK fun Ph vS=>?_;refine aW ?_;refine oe (av 3) ?_;refine oe (aF (b:=b5)) ?_;refine oe bL ?_;refine oe bY ?_;refine on ?_;refine cc rfl hM (fun hc21 hM=>?_) (fun hc21 hM=>?_)
 ·refine aX (vS _ _ ?_);clear vS;refine aK fun Pj tX=>?_;refine bH ?_;refine sr ?_;refine oe (av 3) ?_;refine oe (aF (b:=b5)) ?_;refine om ?_;obtain⟨mW,GR,hM⟩:=bind_some hM;refine oe (bD (xs:=x3.aJ) 4 ((Sk.elem (Sk.dw (α:=List Line) (r:=ah.2.2.1) (x:=p0.Lines) hA) hx4)).kn (iS GR)) ?_;refine oe (fM (m:=4) (i:=(eD:Int)) (xs:=x3.aJ) (y:=mW) (l:=(wY mW)) 0 ((Sk.elem (Sk.dw (α:=List Line) (r:=ah.2.2.1) (x:=p0.Lines) hA) hx4)).kn (fun _=>GR)) ?_;refine oA rfl fun yI=>?_;refine oS yI (wY mW) ?_;refine on ?_;refine aW ?_;refine oe (av 3) ?_;refine oe (aF (b:=b5)) ?_;refine oe bL ?_;refine oN hM fun hM=>?_;refine oe dU ?_;refine aT ?_;refine aK fun LB sJ=>?_;refine sr ?_;refine oe (av 0) ?_;refine oe (aF (b:=yI)) ?_;refine oe (av 2) ?_;refine oe (aF (b:=b2)) ?_;refine oe bL ?_;obtain⟨Qh,hM⟩:=bW hM
  refine oe (ng (hr:=fun hg=>dY Qh)) ?_;obtain⟨y27,hy28,hM⟩:=bind_some hM;refine cv (fun hs=>zh _ _ mW.aO 0 ((p0.Routes.length:Int)-1) y27 hy28 (bf hs)) ?_;refine oe fq ?_;refine om ?_;refine aD rfl (av 1) ?_;refine aD rfl (aF (b:=yI)) ?_;refine aD rfl (av 0) ?_;refine aD rfl (aF (b:=b2)) ?_;obtain⟨akO,hM⟩:=bW hM;refine aD rfl (ng (hr:=fun hg=>dY (Cb akO hg))) ?_;obtain⟨qx,hy31,hM⟩:=bind_some hM;refine cg rfl (fun hg hs=>zh _ _ mW.Extra 0 (p0.bU-1) qx (eF hy31 hg) (bf hs)) ?_;refine aD rfl fq ?_;refine oe dQ ?_;refine om ?_;refine aD rfl (bR (b:=b2)) ?_;refine aD rfl (av 2) ?_;refine aD rfl (aF (b:=yI)) ?_;refine aD rfl (av 3) ?_;refine aD rfl (aF (b:=yI)) ?_;obtain⟨y32,QU,hM⟩:=bind_some hM;refine cg rfl (fun hg hs=>ab5 _ _ p0 ah mW.Min mW.Max y32 (eF QU hg) (bf hs) ⟨(kM hs),(kM hs),(kM hs),(kM hs),(kM hs),(kM hs),(kM hs)⟩) ?_;refine aD rfl fq ?_;refine oe dQ ?_;refine om ?_;refine aD rfl aL ?_;refine aD rfl aL ?_;refine aD rfl (av 2) ?_;refine aD rfl (aF (b:=yI)) ?_;refine aD rfl gZ ?_;refine aD rfl aL ?_
  refine aD rfl (av 3) ?_;refine aD rfl (aF (b:=yI)) ?_;refine aD rfl gZ ?_;refine aD rfl dQ ?_;refine aD rfl dG ?_;refine oe dQ ?_;refine on ?_;refine cc rfl hM (fun hc34 hM=>?_) (fun hc34 hM=>?_)
  · refine bI ?_;exact aY (bQ hM)
  refine aX (sJ _ _ ?_);clear sJ;refine aK fun LC sK=>?_;refine aK fun UJ yO=>?_;refine gy _ (List.Sublist.refl _) ?_;refine ak 0 rfl (bR (b:=b1)) ?_;refine ak 1 rfl (av 2) ?_;refine ak 2 rfl (aF (b:=b2)) ?_;refine ak 3 rfl (av 0) ?_;refine ak 4 rfl (aF (b:=yI)) ?_;obtain⟨wE,GU,hM⟩:=bind_some hM;refine ak 5 rfl (bD (xs:=p0.Routes) 2 (kG p0.Routes ah.2.1) (iS GU)) ?_;refine ak 6 rfl (fM (m:=2) (i:=mW.aO) (xs:=p0.Routes) (y:=wE) (l:=(jC wE (ah.2.1.es mW.aO.toNat))) 0 (kG p0.Routes ah.2.1) (fun _=>GU)) ?_;refine ak 7 rfl (av 1) ?_;refine ak 8 rfl (aF (b:=b2)) ?_;refine ak 9 rfl (av 1) ?_;refine ak 10 rfl (aF (b:=b5)) ?_;obtain⟨Uz,hx38,hM⟩:=bind_some hM;refine ak 11 rfl (bD (xs:=p0.aR) 5 (kG p0.aR ah.1) (iS hx38)) ?_;refine ak 12 rfl (fM (m:=5) (i:=x3.aH) (xs:=p0.aR) (y:=Uz) (l:=(ru Uz)) 0 (kG p0.aR ah.1) (fun _=>hx38)) ?_;obtain⟨y39,aas,hM⟩:=bind_some hM;refine dH 13 rfl (sV (fun hs=>aql _ _ l0 ay wE (ah.2.1.es mW.aO.toNat) Uz y39 aas (bf hs) ⟨(kM hs),(kM hs),(kM hs),(kM hs)⟩ (Kn.lend ((Sk.elem (Sk.dw (α:=List aO) (r:=ah.2.1) (x:=p0.Routes) hA) GU)).kn hs)) ⟨rI,?_⟩)
  refine ak 14 rfl dD ?_;refine dP (yO _ _ ?_);clear yO;refine aW ?_;refine oe gZ ?_;refine on ?_;refine cc rfl hM (fun GN hM=>?_) (fun GN hM=>?_)
  · refine aW ?_;refine aT ?_;exact aY (bQ hM)
  refine aX (sK _ _ ?_);clear sK;refine aK fun UL wN=>?_;refine gy _ (List.Sublist.refl _) ?_;refine ak 0 rfl aL ?_;refine ak 1 rfl gM ?_;refine ak 2 rfl aL ?_;refine dO 3 rfl rfl (av 2) ?_;refine dO 4 rfl rfl (aF (b:=b2)) ?_;refine dO 5 rfl rfl (av 0) ?_;refine dO 6 rfl rfl (aF (b:=yI)) ?_;obtain⟨gY,GV,hM⟩:=bind_some hM;refine dO 7 rfl rfl (bD (xs:=p0.Routes) 2 (kG p0.Routes ah.2.1) (fun hg=>let h:=nH (eF GV hg);⟨h.1,h.2.1⟩)) ?_;refine YF (decide (0<(eD:Int))) (fun kD=>?_) (fun kD=>?_)
  · replace hM:=iT kD hM;have QG:=eF GV kD;refine rU 131 kD rfl ?_;refine rU 132 kD rfl ?_;refine rU 133 kD rfl ?_;refine rU 134 kD rfl ?_;refine rU 135 kD rfl ?_;refine rT 8 rfl rfl kD (fM (m:=2) (i:=mW.aO) (xs:=p0.Routes) (y:=gY) (l:=(jC gY (ah.2.1.es mW.aO.toNat))) 0 (kG p0.Routes ah.2.1) (fun _=>QG)) ?_;refine rT 10 rfl rfl kD (av 2) ?_;refine rT 11 rfl rfl kD (aF (b:=b2)) ?_;refine rT 12 rfl rfl kD (av 3) ?_;refine rT 13 rfl rfl kD (aF (b:=b5)) ?_;refine rT 14 rfl rfl kD aL ?_;obtain⟨akT,hM⟩:=bW hM;refine rT 15 rfl rfl kD (ng (hr:=fun hg=>dY akT)) ?_;obtain⟨zw,QH,hM⟩:=bind_some hM;refine rT 16 rfl rfl kD (bD (xs:=x3.aJ) 4 ((Sk.elem (Sk.dw (α:=List Line) (r:=ah.2.2.1) (x:=p0.Lines) hA) hx4)).kn (iS QH)) ?_;refine rT 17 rfl rfl kD (av 0) ?_;refine rT 18 rfl rfl kD (bT (i:=((eD:Int)-1)) (xs:=x3.aJ) (y:=zw) 0 ((Sk.elem (Sk.dw (α:=List Line) (r:=ah.2.2.1) (x:=p0.Lines) hA) hx4)).kn (fun _=>QH)) ?_;obtain⟨UD,aaj,hM⟩:=bind_some hM;refine rT 19 rfl rfl kD (bD (xs:=p0.Routes) 2 (kG p0.Routes ah.2.1) (iS aaj)) ?_;refine rT 20 rfl rfl kD (fM (m:=2) (i:=zw.aO) (xs:=p0.Routes) (y:=UD) (l:=(jC UD (ah.2.1.es zw.aO.toNat))) 0 (kG p0.Routes ah.2.1) (fun _=>aaj)) ?_
    obtain⟨y51,aoa,hM⟩:=bind_some hM;refine LK 9 rfl rfl kD (sV (fun hs=>ab3 _ _ gY (ah.2.1.es mW.aO.toNat) y51 aoa (bf hs) (Kn.lend ((Sk.elem (Sk.dw (α:=List aO) (r:=ah.2.1) (x:=p0.Routes) hA) QG)).kn hs)) ⟨rI,?_⟩);obtain⟨jJ,Ea,hM⟩:=bind_some hM;refine LK 21 rfl rfl kD (sV (fun hs=>ab4 _ _ UD (ah.2.1.es zw.aO.toNat) jJ Ea (bf hs) (Kn.lend ((Sk.elem (Sk.dw (α:=List aO) (r:=ah.2.1) (x:=p0.Routes) hA) aaj)).kn hs)) ⟨rI,?_⟩);refine rT 22 rfl rfl kD gZ ?_;refine ak 23 rfl dG ?_;refine dP (wN _ _ ?_);clear wN;refine cc rfl hM (fun Qy hM=>?_) (fun Qy hM=>?_)
    ·refine bI ?_;exact aY (bQ hM)
    refine aX (tX _ _ ?_);clear tX;refine bB ?_;refine om ?_;refine oP hM fun hM=>?_;refine oa ?_;refine bC (hL2 hM sS rI)
  replace hM:=iF kD hM;refine oG 8 rfl rfl kD ?_;refine oG 9 rfl rfl kD ?_;refine oG 10 rfl rfl kD ?_;refine oG 11 rfl rfl kD ?_;refine oG 12 rfl rfl kD ?_;refine oG 13 rfl rfl kD ?_;refine oG 14 rfl rfl kD ?_;refine oG 15 rfl rfl kD ?_;refine oG 16 rfl rfl kD ?_;refine oG 17 rfl rfl kD ?_;refine oG 18 rfl rfl kD ?_;refine oG 19 rfl rfl kD ?_;refine oG 20 rfl rfl kD ?_;refine oG 21 rfl rfl kD ?_;refine oG 22 rfl rfl kD ?_;refine ak 23 rfl (P5 kD) ?_;refine dP (wN _ _ ?_);clear wN;refine U6 rfl rfl ?_;refine aX (tX _ _ ?_);clear tX;refine bB ?_;refine om ?_;refine oP hM fun hM=>?_;refine oa ?_;refine bC (hL2 hM sS rI)
 refine dK (nX _ _ ?_);clear nX;dsimp only[aho] at hM;refine bI ?_;exact aY (bQ hM)
def Ib(p0:Plan)(gD:Int)(k0:Int):Option Bool:=
 bq (bJ ((p0.Lines.length:Int)-1))<|
 (rO gD 0 ((p0.Lines.length:Int)-1)).bind fun y3=>
 (fK y3 default (idx p0.Lines gD)).bind fun x5=>
 if y3 then
 (bq (bJ ((x5.aJ.length:Int)-1))<|
 (rO k0 0 ((x5.aJ.length:Int)-1)).bind fun jd=>
 some (y3&&jd))
 else
 (some false)
theorem Xd(S:bO)(w:World)(p0:Plan)(ah:aC.R Plan)(gD:Int)(k0:Int)(y:Bool)(hM:Ib p0 gD k0=some y)(hS:sB S w)(fT:aC.ok S w ah p0):
   Calls Tryz.prog 69 #[.agg (iV p0 ah),vI gD,vI k0] w (dz w (.bool y)):=by
 refine cu (args:=[_,_,_]) Tryz.func69 rfl ((pre_nil hS).start |>.nS fT) rfl ?_;unfold Ib at hM;refine sr ?_;refine oB (dh p0 ah) fun b1=>?_;refine aT ?_;refine aW ?_;refine oe (av 3) ?_;refine oe (aF (b:=b1)) ?_;refine oe bL ?_;refine oN hM fun hM=>?_;obtain⟨y3,hy4,hM⟩:=bind_some hM;refine cv (fun hs=>zh _ _ gD 0 ((p0.Lines.length:Int)-1) y3 hy4 (bf hs)) ?_
 refine om ?_;refine aD rfl aL ?_;refine aD rfl (av 3) ?_;refine aD rfl (aF (b:=b1)) ?_;refine aD rfl aL ?_;obtain⟨x5,hx6,hM⟩:=bind_some hM;refine aD rfl (bD (xs:=p0.Lines) 4 (kG p0.Lines ah.2.2.1) (fun hg=>let h:=nH (eF hx6 hg);⟨h.1,h.2.1⟩)) ?_;refine aD rfl (av 3) ?_;refine afN y3 (fun tY=>?_) (fun tY=>?_)
 ·replace hM:=iT tY hM;have yR:=eF hx6 tY;refine BA 14 tY rfl ?_;refine BA 15 tY rfl ?_;refine BA 16 tY rfl ?_;refine BA 17 tY rfl ?_;refine BA 18 tY rfl ?_;refine BA 19 tY rfl ?_;refine Hg rfl tY ?_;refine oe (bT (i:=gD) (xs:=p0.Lines) (y:=x5) 3 (kG p0.Lines ah.2.2.1) (fun _=>yR)) ?_;refine Hg rfl tY ?_;refine oe bL ?_;refine Hg rfl tY ?_;refine oN hM fun hM=>?_;refine Hg rfl tY ?_;obtain⟨jd,tZ,hM⟩:=bind_some hM;refine cv (fun hs=>zh _ _ k0 0 ((x5.aJ.length:Int)-1) jd tZ (bf hs)) ?_;refine oe dG ?_;refine aT ?_;exact aY (bQ hM)
 replace hM:=iF tY hM;refine Hf rfl tY ?_;refine Hf rfl tY ?_;refine Hf rfl tY ?_;refine Hf rfl tY ?_;refine oe (P5 tY) ?_;refine aT ?_;exact aY (bQ hM)
def Ia(p0:Plan)(gD:Int)(k0:Int):Option aO:=
 (idx p0.Lines gD).bind fun x3=>
 (idx x3.aJ k0).bind fun x5=>
 (idx p0.Routes x5.aO).bind fun x7=>
 some x7
theorem Xa(S:bO)(w:World)(p0:Plan)(ah:aC.R Plan)(gD:Int)(k0:Int)(y:aO)(hM:Ia p0 gD k0=some y)(hS:sB S w)(fT:aC.ok S w ah p0):
  Calls Tryz.prog 129 #[.agg (iV p0 ah),vI gD,vI k0] w (Post (β:=(aC.R aO)) S [] (fun g=> .agg (xH y g)) (fun g=>[iL y.Steps g]) w):=by
 refine cu (args:=[_,_,_]) Tryz.func129 rfl ((pre_nil hS).start |>.nS fT) rfl ?_;unfold Ia at hM;refine sr ?_;refine oB (dh p0 ah) fun b1=>?_;refine oA rfl fun b2=>?_;refine on ?_;refine aK fun K2 hK2=>?_;refine iW [own b2 90 [z0,vI 0],own b1 35 (dh p0 ah),iL p0.bF ah.2.2.2.2.2.2,iL p0.bE ah.2.2.2.2.2.1,iL p0.Turns ah.2.2.2.2.1,iL p0.Changes ah.2.2.2.1,iL p0.Lines ah.2.2.1,iL p0.Routes ah.2.1,iL p0.aR ah.1] 14 ?_
 refine aG 0 rfl (av 2) ?_;refine aG 1 rfl (aF (b:=b1)) ?_;refine aG 2 rfl (av 3) ?_;refine aG 3 rfl (aF (b:=b1)) ?_;refine aG 4 rfl aL ?_;obtain⟨x3,hx4,hM⟩:=bind_some hM;refine aG 5 rfl (bD (xs:=p0.Lines) 4 (kG p0.Lines ah.2.2.1) (iS hx4)) ?_;refine aG 6 rfl (av 3) ?_;refine aG 7 rfl (bT (i:=gD) (xs:=p0.Lines) (y:=x3) 3 (kG p0.Lines ah.2.2.1) (fun _=>hx4)) ?_;refine aG 8 rfl aL ?_;obtain⟨x5,hx6,hM⟩:=bind_some hM;refine aG 9 rfl (bD (xs:=x3.aJ) 4 ((Sk.elem (Sk.dw (α:=List Line) (r:=ah.2.2.1) (x:=p0.Lines) hA) hx4)).kn (iS hx6)) ?_;refine aG 10 rfl (av 0) ?_;refine aG 11 rfl (bT (i:=k0) (xs:=x3.aJ) (y:=x5) 0 ((Sk.elem (Sk.dw (α:=List Line) (r:=ah.2.2.1) (x:=p0.Lines) hA) hx4)).kn (fun _=>hx6)) ?_;obtain⟨x7,yR,hM⟩:=bind_some hM;refine aG 12 rfl (bD (xs:=p0.Routes) 2 (kG p0.Routes ah.2.1) (iS yR)) ?_;refine aG 13 rfl (fM (m:=2) (i:=x5.aO) (xs:=p0.Routes) (y:=x7) (l:=(jC x7 (ah.2.1.es x5.aO.toNat))) 0 (kG p0.Routes ah.2.1) (fun _=>yR)) ?_;refine iQ rfl (xu (b:=b2) (vs:=(jC x7 (ah.2.1.es x5.aO.toNat))) (k:=?_))
 refine iP (hK2 _ _ ?_);clear hK2;refine cZ (fun w hm=>hm.xV (α:=List Step) (r:=(ah.2.1.es x5.aO.toNat)) (x:=x7.Steps) (fun S hs=>(Sk.elem (Sk.dw (α:=List aO) (r:=ah.2.1) (x:=p0.Routes) hA) yR) S w hs)) ?_;obtain rfl:=some_inj hM;refine aY (mD (fun w hm=>fU (ah.2.1.es x5.aO.toNat) hm rfl))
def Oi(l0:Layout)(p0:Plan)(c0:Change):Option Int:=
 (Ib p0 c0.fZ c0.iE).bind fun y4=>
 (fK (!(!y4)) default (Ib p0 c0.iO c0.kN)).bind fun y6=>
 (fK (!(((!y4)||(!y6))||decide (c0.fZ=c0.iO))) default (KE p0 c0.Min c0.Max)).bind fun y8=>
 (fK (!((((!y4)||(!y6))||decide (c0.fZ=c0.iO))||(!y8))) default (rO c0.Weight 0 1048576)).bind fun jd=>
 if (((((!y4)||(!y6))||decide (c0.fZ=c0.iO))||(!y8))||(!jd)) then
  (some 4)
 else
  ((Ia p0 c0.fZ c0.iE).bind fun y13=>
  (KD y13).bind fun qw=>
  (idx l0.Sections qw).bind fun x18=>
  (Ia p0 c0.iO c0.kN).bind fun y20=>
  (KC y20).bind fun y23=>
  (idx l0.Sections y23).bind fun x25=>
  if (decide (x18.nG<0)||decide (x18.nG≠x25.nG)) then
   (some 11)
  else
   (some 0))
theorem aqn(S:bO)(w:World)(l0:Layout)(ay:aC.R Layout)(p0:Plan)(ah:aC.R Plan)(c0:Change)(y:Int)(hM:Oi l0 p0 c0=some y)(hS:sB S w)(dZ:aC.ok S w ay l0)(fT:aC.ok S w ah p0):
   Calls Tryz.prog 67 #[.agg (jN l0 ay),.agg (iV p0 ah),.agg (aiN c0)] w (dz w (vI y)):=by
 refine cu (args:=[_,_,_]) Tryz.func67 rfl ((pre_nil hS).start |>.lY dZ|>.nS fT) rfl ?_;unfold Oi at hM;refine sr ?_;refine oB (cK l0 ay) fun b1=>?_;refine oB (dh p0 ah) fun b2=>?_
 refine oB (Ep c0) fun b3=>?_;refine aT ?_;refine aK fun K2 hK2=>?_;refine sr ?_;refine oe (bR (b:=b2)) ?_;refine oe (av 0) ?_;refine oe (aF (b:=b3)) ?_;refine oe (av 1) ?_;refine oe (aF (b:=b3)) ?_;obtain⟨y4,Fy,hM⟩:=bind_some hM;refine cv (fun hs=>Xd _ _ p0 ah c0.fZ c0.iE y4 Fy (bf hs) ⟨(kM hs),(kM hs),(kM hs),(kM hs),(kM hs),(kM hs),(kM hs)⟩) ?_;refine oe fq ?_;refine om ?_;refine aD rfl (bR (b:=b2)) ?_;refine aD rfl (av 2) ?_;refine aD rfl (aF (b:=b3)) ?_;refine aD rfl (av 3) ?_;refine aD rfl (aF (b:=b3)) ?_;obtain⟨y6,qh,hM⟩:=bind_some hM;refine cg rfl (fun hg hs=>Xd _ _ p0 ah c0.iO c0.kN y6 (eF qh hg) (bf hs) ⟨(kM hs),(kM hs),(kM hs),(kM hs),(kM hs),(kM hs),(kM hs)⟩) ?_;refine aD rfl fq ?_;refine oe dQ ?_;refine om ?_;refine aD rfl (av 0) ?_;refine aD rfl (aF (b:=b3)) ?_;refine aD rfl (av 2) ?_;refine aD rfl (aF (b:=b3)) ?_;refine aD rfl dU ?_
 refine oe dQ ?_;refine om ?_;refine aD rfl (bR (b:=b2)) ?_;refine aD rfl (av 4) ?_;refine aD rfl (aF (b:=b3)) ?_;refine aD rfl (av 5) ?_;refine aD rfl (aF (b:=b3)) ?_;obtain⟨y8,uh,hM⟩:=bind_some hM;refine cg rfl (fun hg hs=>ab5 _ _ p0 ah c0.Min c0.Max y8 (eF uh hg) (bf hs) ⟨(kM hs),(kM hs),(kM hs),(kM hs),(kM hs),(kM hs),(kM hs)⟩) ?_;refine aD rfl fq ?_;refine oe dQ ?_;refine om ?_;refine aD rfl (av 6) ?_;refine aD rfl (aF (b:=b3)) ?_;obtain⟨jd,tZ,hM⟩:=bind_some hM;refine cg rfl (fun hg hs=>zh _ _ c0.Weight 0 1048576 jd (eF tZ hg) (bf hs)) ?_;refine aD rfl fq ?_;refine oe dQ ?_;refine on ?_;refine cc rfl hM (fun qD hM=>?_) (fun qD hM=>?_)
 ·refine bI ?_;exact aY (bQ hM)
 refine aX (hK2 _ _ ?_);clear hK2;refine aK fun K5 dI=>?_;refine gy _ (List.Sublist.refl _) ?_;refine ak 0 rfl (av 2) ?_;refine ak 1 rfl (aF (b:=b1)) ?_;refine ak 2 rfl (bR (b:=b2)) ?_;refine ak 3 rfl (av 0) ?_;refine ak 4 rfl (aF (b:=b3)) ?_;refine ak 5 rfl (av 1) ?_;refine ak 6 rfl (aF (b:=b3)) ?_;obtain⟨y13,xS,hM⟩:=bind_some hM;refine dH 7 rfl (nT jM.nil (fun S w hs hP=>Xa _ w p0 ah c0.fZ c0.iE y13 xS hs.lt ⟨(kI hs),(kI hs),(kI hs),(kI hs),(kI hs),(kI hs),(kI hs)⟩) (fun Ai=>⟨rI,?_⟩));dsimp only[cA,nA];obtain⟨qw,Fw,hM⟩:=bind_some hM;refine dH 8 rfl (sV (fun hs=>ab4 _ _ y13 Ai qw Fw (bf hs) (kM hs)) ⟨rI,?_⟩);obtain⟨x18,Fp,hM⟩:=bind_some hM;refine ak 9 rfl (bD (xs:=l0.Sections) 5 (kG l0.Sections ay.2.2.1) (iS Fp)) ?_;refine ak 10 rfl (av 4) ?_;refine ak 11 rfl (bT (i:=qw) (xs:=l0.Sections) (y:=x18) 4 (kG l0.Sections ay.2.2.1) (fun _=>Fp)) ?_;refine ak 12 rfl dD ?_;refine dP (dI _ _ ?_);clear dI;refine aK fun K6 dn=>?_;refine gy _ (List.Sublist.refl _) ?_;refine ak 0 rfl (av 2) ?_;refine ak 1 rfl (aF (b:=b1)) ?_;refine ak 2 rfl (bR (b:=b2)) ?_
 refine ak 3 rfl (av 2) ?_;refine ak 4 rfl (aF (b:=b3)) ?_;refine ak 5 rfl (av 3) ?_;refine ak 6 rfl (aF (b:=b3)) ?_;obtain⟨y20,Cq,hM⟩:=bind_some hM;refine dH 7 rfl (nT jM.nil (fun S w hs hP=>Xa _ w p0 ah c0.iO c0.kN y20 Cq hs.lt ⟨(kI hs),(kI hs),(kI hs),(kI hs),(kI hs),(kI hs),(kI hs)⟩) (fun Ak=>⟨rI,?_⟩));dsimp only[cA,nA];obtain⟨y23,hy24,hM⟩:=bind_some hM;refine dH 8 rfl (sV (fun hs=>ab3 _ _ y20 Ak y23 hy24 (bf hs) (kM hs)) ⟨rI,?_⟩);obtain⟨x25,yQ,hM⟩:=bind_some hM;refine ak 9 rfl (bD (xs:=l0.Sections) 5 (kG l0.Sections ay.2.2.1) (iS yQ)) ?_;refine ak 10 rfl (av 4) ?_;refine ak 11 rfl (bT (i:=y23) (xs:=l0.Sections) (y:=x25) 4 (kG l0.Sections ay.2.2.1) (fun _=>yQ)) ?_;refine ak 12 rfl dD ?_;refine dP (dn _ _ ?_);clear dn;refine aK fun K7 eu=>?_;refine aW ?_;refine oe bY ?_;refine om ?_;refine aD rfl aL ?_;refine aD rfl aL ?_;refine aD rfl gZ ?_;refine oe dQ ?_;refine on ?_;refine cc rfl hM (fun hc27 hM=>?_) (fun hc27 hM=>?_)
 ·refine bI ?_;exact aY (bQ hM)
 refine aX (eu _ _ ?_);clear eu;refine bI ?_;exact aY (bQ hM)
def Xg(p0:Plan)(x2:Turn):(Str×Int×Int×(List aM)×Str×Int×Int×(List aM))→Option Int:=fun (UU,Po,UW,GZ,U1,Py,U2,Rk)=>
 bq (bJ ((GZ.length:Int)-1))<|
 (Ia p0 x2.From ((GZ.length:Int)-1)).bind fun y22=>
 (KD y22).bind fun y25=>
 (Ia p0 x2.To 0).bind fun y27=>
 (KC y27).bind fun qx=>
 if (decide (y25≠qx)||decide (Po≠Py)) then
  (some 11)
 else
  (some 0)
def ab9(p0:Plan)(x2:Turn):Unit→Option Int:=fun _=>
 (idx p0.Lines x2.From).bind fun au=>
 (idx p0.Lines x2.To).bind fun wE=>
 Xg p0 x2 (au.Name,au.aH,au.Weight,au.aJ,wE.Name,wE.aH,wE.Weight,wE.aJ)
def Xf(i0:Int)(p0:Plan)(x2:Turn)(bA:Nat→Option Int):Nat→Option Int:=fun kg=>
 if decide ((kg:Int)<i0) then
  ((idx p0.Turns (kg:Int)).bind fun qM=>
  (fK (!(decide (qM.From=x2.From))) default (idx p0.Turns (kg:Int))).bind fun jV=>
  if (decide (qM.From=x2.From)||decide (jV.To=x2.To)) then
   (some 5)
  else
   (bq (bJ ((kg:Int)+1))<|
   bA (kg+1)))
 else
  (ab9 p0 x2 ())
def Oq(p0:Plan)(i0:Int):Option Int:=
 (idx p0.Turns i0).bind fun x2=>
 bq (bJ ((p0.Lines.length:Int)-1))<|
 (rO x2.From 0 ((p0.Lines.length:Int)-1)).bind fun y6=>
 bq (!(!(!y6))||bJ ((p0.Lines.length:Int)-1))<|
 (fK (!(!y6)) default (rO x2.To 0 ((p0.Lines.length:Int)-1))).bind fun y9=>
 (fK (!((!y6)||(!y9))) default (KE p0 x2.Min x2.Max)).bind fun eU=>
 if (((!y6)||(!y9))||(!eU)) then
  (some 4)
 else
  (iter (Xf i0 p0 x2) FUEL 0)
theorem aqt(S:bO)(w:World)(p0:Plan)(ah:aC.R Plan)(i0:Int)(y:Int)(hM:Oq p0 i0=some y)(hS:sB S w)(fT:aC.ok S w ah p0):
   Calls Tryz.prog 68 #[.agg (iV p0 ah),vI i0] w (dz w (vI y)):=by
 refine cu (args:=[_,_]) Tryz.func68 rfl ((pre_nil hS).start |>.nS fT) rfl ?_;unfold Oq at hM;refine sr ?_;refine oB (dh p0 ah) fun b1=>?_;refine aT ?_;refine sr ?_;refine oe (av 5) ?_;refine oe (aF (b:=b1)) ?_;refine om ?_;obtain⟨x2,hx3,hM⟩:=bind_some hM;refine oe (bD (xs:=p0.Turns) 4 (kG p0.Turns ah.2.2.2.2.1) (iS hx3)) ?_
 refine oe (fM (m:=4) (i:=i0) (xs:=p0.Turns) (y:=x2) (l:=(vg x2)) 0 (kG p0.Turns ah.2.2.2.2.1) (fun _=>hx3)) ?_;refine oA rfl fun b4=>?_;refine oS b4 (vg x2) ?_;refine on ?_;refine aK fun K3 hK3=>?_;refine sr ?_;refine oe (av 0) ?_;refine oe (aF (b:=b4)) ?_;refine oe (av 3) ?_;refine oe (aF (b:=b1)) ?_;refine oe bL ?_;refine oN hM fun hM=>?_;obtain⟨y6,qh,hM⟩:=bind_some hM;refine cv (fun hs=>zh _ _ x2.From 0 ((p0.Lines.length:Int)-1) y6 qh (bf hs)) ?_;refine oe fq ?_;refine om ?_;refine aD rfl (av 1) ?_;refine aD rfl (aF (b:=b4)) ?_;refine aD rfl (av 3) ?_;refine aD rfl (aF (b:=b1)) ?_;refine aD rfl bL ?_;obtain⟨Qj,hM⟩:=bW hM;refine aD rfl (ng (hr:=fun hg=>dY (Cb Qj hg))) ?_;obtain⟨y9,zR,hM⟩:=bind_some hM;refine cg rfl (fun hg hs=>zh _ _ x2.To 0 ((p0.Lines.length:Int)-1) y9 (eF zR hg) (bf hs)) ?_;refine aD rfl fq ?_
 refine oe dQ ?_;refine om ?_;refine aD rfl (bR (b:=b1)) ?_;refine aD rfl (av 2) ?_;refine aD rfl (aF (b:=b4)) ?_;refine aD rfl (av 3) ?_;refine aD rfl (aF (b:=b4)) ?_;obtain⟨eU,vV,hM⟩:=bind_some hM;refine cg rfl (fun hg hs=>ab5 _ _ p0 ah x2.Min x2.Max eU (eF vV hg) (bf hs) ⟨(kM hs),(kM hs),(kM hs),(kM hs),(kM hs),(kM hs),(kM hs)⟩) ?_;refine aD rfl fq ?_;refine oe dQ ?_;refine on ?_;refine cc rfl hM (fun zM hM=>?_) (fun zM hM=>?_)
 ·refine bI ?_;exact aY (bQ hM)
 refine aX (hK3 _ _ ?_);clear hK3;refine aK fun K6 dn=>?_;refine bI ?_;refine bH ?_;refine lq hM (fun kg=>[(1,eI i0),(2,eP b1),(5,eP b4),(6,eI (kg:Int))]) (fun kg=>[iL p0.aR ah.1,iL p0.Routes ah.2.1,iL p0.Lines ah.2.2.1,iL p0.Changes ah.2.2.2.1,iL p0.Turns ah.2.2.2.2.1,iL p0.bE ah.2.2.2.2.2.1,iL p0.bF ah.2.2.2.2.2.2,own b1 35 (dh p0 ah),own b4 94 (vg x2)]) sS rI ?_;clear hM;rintro bA kg hM iG hL1;dsimp only[Xf] at hM ⊢;refine aK fun K8 gV=>?_;refine aW ?_;refine om ?_;refine oe bY ?_;refine on ?_
 refine cc rfl hM (fun vT hM=>?_) (fun vT hM=>?_)
 ·refine aX (gV _ _ ?_);clear gV;refine aK fun tK gU=>?_;refine bH ?_;refine aK fun rQ gG=>?_;refine gy _ (List.Sublist.refl _) ?_;refine ak 0 rfl (av 5) ?_;refine ak 1 rfl (aF (b:=b1)) ?_;refine ak 2 rfl aL ?_;obtain⟨qM,hx16,hM⟩:=bind_some hM;refine ak 3 rfl (bD (xs:=p0.Turns) 4 (kG p0.Turns ah.2.2.2.2.1) (iS hx16)) ?_;refine ak 4 rfl (av 0) ?_;refine ak 5 rfl (bT (i:=(kg:Int)) (xs:=p0.Turns) (y:=qM) 0 (kG p0.Turns ah.2.2.2.2.1) (fun _=>hx16)) ?_;refine ak 6 rfl (av 0) ?_;refine ak 7 rfl (aF (b:=b4)) ?_;refine ak 8 rfl dU ?_;refine ak 9 rfl aL ?_;refine dO 10 rfl rfl (av 5) ?_;refine dO 11 rfl rfl (aF (b:=b1)) ?_;refine dO 12 rfl rfl aL ?_;obtain⟨jV,wP,hM⟩:=bind_some hM;refine dO 13 rfl rfl (bD (xs:=p0.Turns) 4 (kG p0.Turns ah.2.2.2.2.1) (fun hg=>let h:=nH (eF wP hg);⟨h.1,h.2.1⟩)) ?_;refine dO 14 rfl rfl (av 1) ?_;refine dO 15 rfl rfl (bT (i:=(kg:Int)) (xs:=p0.Turns) (y:=jV) 1 (kG p0.Turns ah.2.2.2.2.1) (fun hg=>eF wP hg)) ?_;refine dO 16 rfl rfl (av 1) ?_;refine dO 17 rfl rfl (aF (b:=b4)) ?_;refine dO 18 rfl rfl dU ?_;refine ak 19 rfl dQ ?_
  refine dP (gG _ _ ?_);clear gG;refine cc rfl hM (fun hc19 hM=>?_) (fun hc19 hM=>?_)
  · refine bI ?_;exact aY (bQ hM)
  refine aX (gU _ _ ?_);clear gU;refine bB ?_;refine om ?_;refine oP hM fun hM=>?_;refine oa ?_;refine bC (hL1 hM sS rI)
 refine dK (dn _ _ ?_);clear dn;dsimp only[ab9] at hM;refine jn (Nat×Nat) y (k:=Xg p0 x2) (fun (UU,Po,UW,GZ,U1,Py,U2,Rk) (LX,PE)=>[(2,eP b1),(5,eP b4),(7,eP LX),(8,eP PE)]) (fun (UU,Po,UW,GZ,U1,Py,U2,Rk) (LX,PE)=>[iL p0.aR ah.1,iL p0.Routes ah.2.1,iL p0.Lines ah.2.2.1,iL p0.Changes ah.2.2.2.1,iL p0.Turns ah.2.2.2.2.1,iL p0.bE ah.2.2.2.2.2.1,iL p0.bF ah.2.2.2.2.2.2,own b1 35 (dh p0 ah),own b4 94 (vg x2),iL GZ (ah.2.2.1.es x2.From.toNat),own LX 56 [.string UU.ba,vI Po,vI UW,sL (ah.2.2.1.es x2.From.toNat) GZ],iL Rk (ah.2.2.1.es x2.To.toNat),own PE 56 [.string U1.ba,vI Py,vI U2,sL (ah.2.2.1.es x2.To.toNat) Rk]]) ?_ ?_
 ·intro zC hJ2;refine gy _ (List.Sublist.refl _) ?_;refine ak 0 rfl (av 3) ?_;refine ak 1 rfl (aF (b:=b1)) ?_;refine ak 2 rfl (av 0) ?_;refine ak 3 rfl (aF (b:=b4)) ?_;obtain⟨au,hx34,hM⟩:=bind_some hM;refine ak 4 rfl (bD (xs:=p0.Lines) 4 (kG p0.Lines ah.2.2.1) (iS hx34)) ?_;refine ak 5 rfl (fM (m:=4) (i:=x2.From) (xs:=p0.Lines) (y:=au) (l:=(kZ au (ah.2.2.1.es x2.From.toNat))) 0 (kG p0.Lines ah.2.2.1) (fun _=>hx34)) ?_;refine ak 6 rfl (av 3) ?_;refine ak 7 rfl (aF (b:=b1)) ?_;refine ak 8 rfl (av 1) ?_;refine ak 9 rfl (aF (b:=b4)) ?_;obtain⟨wE,GU,hM⟩:=bind_some hM;refine ak 10 rfl (bD (xs:=p0.Lines) 4 (kG p0.Lines ah.2.2.1) (iS GU)) ?_;refine ak 11 rfl (fM (m:=4) (i:=x2.To) (xs:=p0.Lines) (y:=wE) (l:=(kZ wE (ah.2.2.1.es x2.To.toNat))) 0 (kG p0.Lines ah.2.2.1) (fun _=>GU)) ?_;refine mh 12 13 (⟨_,rfl,rfl,iw rfl (k:=fun Gs=>⟨rI,?_⟩)⟩) (⟨_,rfl,rfl,iw rfl (k:=fun BQ=>⟨rI,?_⟩)⟩)
  · refine aA 13 rfl rfl fun Gt=>?_;refine aS 14 rfl Gs (kZ au (ah.2.2.1.es x2.From.toNat)) ?_;refine aS 15 rfl Gt (kZ wE (ah.2.2.1.es x2.To.toNat)) ?_;refine BP (fun w hm=>hm.xV (α:=List aM) (r:=(ah.2.2.1.es x2.From.toNat)) (x:=au.aJ) (fun S hs=>(Sk.elem (Sk.dw (α:=List Line) (r:=ah.2.2.1) (x:=p0.Lines) hA) hx34) S w hs)) ?_;refine BP (fun w hm=>hm.xV (α:=List aM) (r:=(ah.2.2.1.es x2.To.toNat)) (x:=wE.aJ) (fun S hs=>(Sk.elem (Sk.dw (α:=List Line) (r:=ah.2.2.1) (x:=p0.Lines) hA) GU) S w hs)) ?_;refine dP (hJ2 (Gs,Gt) hM sS rI)
  refine aA 12 rfl rfl fun DU=>?_;refine aS 14 rfl DU (kZ au (ah.2.2.1.es x2.From.toNat)) ?_;refine aS 15 rfl BQ (kZ wE (ah.2.2.1.es x2.To.toNat)) ?_;refine BP (fun w hm=>hm.xV (α:=List aM) (r:=(ah.2.2.1.es x2.From.toNat)) (x:=au.aJ) (fun S hs=>(Sk.elem (Sk.dw (α:=List Line) (r:=ah.2.2.1) (x:=p0.Lines) hA) hx34) S w hs)) ?_;refine BP (fun w hm=>hm.xV (α:=List aM) (r:=(ah.2.2.1.es x2.To.toNat)) (x:=wE.aJ) (fun S hs=>(Sk.elem (Sk.dw (α:=List Line) (r:=ah.2.2.1) (x:=p0.Lines) hA) GU) S w hs)) ?_;refine dP (hJ2 (DU,BQ) hM sS rI)
 clear hM;rintro⟨UU,Po,UW,GZ,U1,Py,U2,Rk⟩ ⟨LX,PE⟩ hM;dsimp only[Xg] at hM ⊢;refine aK fun yD jO=>?_;refine aK fun BN mq=>?_;refine gy _ (List.Sublist.refl _) ?_;refine ak 0 rfl (bR (b:=b1)) ?_;refine ak 1 rfl (av 0) ?_;refine ak 2 rfl (aF (b:=b4)) ?_;refine ak 3 rfl (av 3) ?_;refine ak 4 rfl (aF (b:=LX)) ?_;refine ak 5 rfl bL ?_;obtain⟨Zl,hM⟩:=bW hM;refine ak 6 rfl (ng (hr:=fun hg=>dY Zl)) ?_;refine ak 9 rfl (bR (b:=b1)) ?_;refine ak 10 rfl (av 1) ?_;refine ak 11 rfl (aF (b:=b4)) ?_;obtain⟨y22,zS,hM⟩:=bind_some hM;refine dH 7 rfl (nT jM.nil (fun S w hs hP=>Xa _ w p0 ah x2.From ((GZ.length:Int)-1) y22 zS hs.lt ⟨(kI hs),(kI hs),(kI hs),(kI hs),(kI hs),(kI hs),(kI hs)⟩) (fun rD=>⟨rI,?_⟩));dsimp only[cA,nA];obtain⟨y25,Fx,hM⟩:=bind_some hM;refine dH 8 rfl (sV (fun hs=>ab4 _ _ y22 rD y25 Fx (bf hs) (kM hs)) ⟨rI,?_⟩);obtain⟨y27,hy28,hM⟩:=bind_some hM;refine dH 12 rfl (nT jM.nil (fun S w hs hP=>Xa _ w p0 ah x2.To 0 y27 hy28 hs.lt ⟨(kI hs),(kI hs),(kI hs),(kI hs),(kI hs),(kI hs),(kI hs)⟩) (fun Sb=>⟨rI,?_⟩));dsimp only[cA,nA];obtain⟨qx,hy31,hM⟩:=bind_some hM
 refine dH 13 rfl (sV (fun hs=>ab3 _ _ y27 Sb qx hy31 (bf hs) (kM hs)) ⟨rI,?_⟩);refine ak 14 rfl gZ ?_;refine ak 15 rfl aL ?_;refine dO 16 rfl rfl (av 1) ?_;refine dO 17 rfl rfl (aF (b:=LX)) ?_;refine dO 18 rfl rfl (av 1) ?_;refine dO 19 rfl rfl (aF (b:=PE)) ?_;refine dO 20 rfl rfl gZ ?_;refine ak 21 rfl dQ ?_;refine dP (mq _ _ ?_);clear mq;refine cc rfl hM (fun hc32 hM=>?_) (fun hc32 hM=>?_)
 ·refine bI ?_;exact aY (bQ hM)
 refine aX (jO _ _ ?_);clear jO;refine bI ?_;exact aY (bQ hM)
def ab1:Unit→Option Int:=fun _=>
 some 0
def WU(p0:Plan)(l0:Layout)(Gw:Nat→Option Int):Nat→Option Int:=fun uo=>
 if decide ((uo:Int)<(p0.bF.length:Int)) then
  ((idx p0.bF (uo:Int)).bind fun x55=>
  bq (bJ ((l0.aU.length:Int)-1))<|
  (rO x55.From 0 ((l0.aU.length:Int)-1)).bind fun O8=>
  bq (!(!(!O8))||bJ ((l0.aU.length:Int)-1))<|
  (fK (!(!O8)) default (rO x55.To 0 ((l0.aU.length:Int)-1))).bind fun BL=>
  (fK (!(((!O8)||(!BL))||decide (x55.From=x55.To))) default (rO x55.Weight 1 1048576)).bind fun y64=>
  if ((((!O8)||(!BL))||decide (x55.From=x55.To))||(!y64)) then
   (some 4)
  else
   (bq (bJ ((uo:Int)+1))<|
   Gw (uo+1)))
 else
  (ab1 ())
def W9(p0:Plan)(l0:Layout):Unit→Option Int:=fun _=>
 iter (WU p0 l0) FUEL 0
def WT(p0:Plan)(l0:Layout)(Gv:Nat→Option Int):Nat→Option Int:=fun um=>
 if decide ((um:Int)<(p0.bE.length:Int)) then
  ((idx p0.bE (um:Int)).bind fun gY=>
  (Ib p0 gY.mJ gY.lG).bind fun DJ=>
  (fK (!(!DJ)) default (Ib p0 gY.mP gY.lN)).bind fun DK=>
  bq (!(!(((!DJ)||(!DK))||(decide (gY.mJ=gY.mP)&&decide (gY.lG=gY.lN))))||bJ (p0.bU-1))<|
  (fK (!(((!DJ)||(!DK))||(decide (gY.mJ=gY.mP)&&decide (gY.lG=gY.lN)))) default (rO gY.Offset 0 (p0.bU-1))).bind fun jB=>
  if ((((!DJ)||(!DK))||(decide (gY.mJ=gY.mP)&&decide (gY.lG=gY.lN)))||(!jB)) then
   (some 4)
  else
   (bq (bJ ((um:Int)+1))<|
   Gv (um+1)))
 else
  (W9 p0 l0 ())
def WZ(p0:Plan)(l0:Layout):Unit→Option Int:=fun _=>
 iter (WT p0 l0) FUEL 0
def WS(p0:Plan)(l0:Layout)(BU:Nat→Option Int):Nat→Option Int:=fun uj=>
 if decide ((uj:Int)<(p0.Turns.length:Int)) then
  ((Oq p0 (uj:Int)).bind fun wG=>
  if decide (wG≠0) then
   (some wG)
  else
   (bq (bJ ((uj:Int)+1))<|
   BU (uj+1)))
 else
  (WZ p0 l0 ())
def WY(p0:Plan)(l0:Layout):Unit→Option Int:=fun _=>
 iter (WS p0 l0) FUEL 0
def WR(p0:Plan)(l0:Layout)(oH:Nat→Option Int):Nat→Option Int:=fun lV=>
 if decide ((lV:Int)<(p0.Changes.length:Int)) then
  ((idx p0.Changes (lV:Int)).bind fun x30=>
  (Oi l0 p0 x30).bind fun y32=>
  if decide (y32≠0) then
   (some y32)
  else
   (bq (bJ ((lV:Int)+1))<|
   oH (lV+1)))
 else
  (WY p0 l0 ())
def WX(p0:Plan)(l0:Layout):Unit→Option Int:=fun _=>
 iter (WR p0 l0) FUEL 0
def WQ(p0:Plan)(l0:Layout)(jX:Nat→Option Int):Nat→Option Int:=fun fO=>
 if decide ((fO:Int)<(p0.Lines.length:Int)) then
  ((Oj l0 p0 (fO:Int)).bind fun y25=>
  if decide (y25≠0) then
   (some y25)
  else
   (bq (bJ ((fO:Int)+1))<|
   jX (fO+1)))
 else
  (WX p0 l0 ())
def WW(p0:Plan)(l0:Layout):Unit→Option Int:=fun _=>
 iter (WQ p0 l0) FUEL 0
def WO(p0:Plan)(l0:Layout)(fE:Nat→Option Int):Nat→Option Int:=fun jA=>
 if decide ((jA:Int)<(p0.Routes.length:Int)) then
  ((idx p0.Routes (jA:Int)).bind fun x18=>
  (KA l0 x18).bind fun y20=>
  if decide (y20≠0) then
   (some y20)
  else
   (bq (bJ ((jA:Int)+1))<|
   fE (jA+1)))
 else
  (WW p0 l0 ())
def WV(p0:Plan)(l0:Layout):Unit→Option Int:=fun _=>
 iter (WO p0 l0) FUEL 0
def WM(p0:Plan)(l0:Layout)(bA:Nat→Option Int):Nat→Option Int:=fun bg=>
 if decide ((bg:Int)<(p0.aR.length:Int)) then
  ((Oo p0 (bg:Int)).bind fun y13=>
  if decide (y13≠0) then
   (some y13)
  else
   (bq (bJ ((bg:Int)+1))<|
   bA (bg+1)))
 else
  (WV p0 l0 ())
def N7(l0:Layout)(p0:Plan):Option Int:=
 (Kw l0).bind fun y3=>
 if decide (y3≠0) then
  (some 1)
 else
  ((Tk p0).bind fun y6=>
  if y6 then
   (some 7)
  else
   ((rO p0.bU 2 7200).bind fun y9=>
   if (!y9) then
    (some 4)
   else
    (iter (WM p0 l0) FUEL 0)))
theorem ahl(S:bO)(w:World)(l0:Layout)(ay:aC.R Layout)(p0:Plan)(ah:aC.R Plan)(y:Int)(hM:N7 l0 p0=some y)(hS:sB S w)(dZ:aC.ok S w ay l0)(fT:aC.ok S w ah p0):
   Calls Tryz.prog 23 #[.agg (jN l0 ay),.agg (iV p0 ah)] w (dz w (vI y)):=by
 refine cu (args:=[_,_]) Tryz.func23 rfl ((pre_nil hS).start |>.lY dZ|>.nS fT) rfl ?_;unfold N7 at hM;refine sr ?_;refine oB (cK l0 ay) fun b1=>?_;refine oB (dh p0 ah) fun b2=>?_
 refine aT ?_;refine aK fun K2 hK2=>?_;refine sr ?_;refine oe (bR (b:=b1)) ?_;obtain⟨y3,hy4,hM⟩:=bind_some hM;refine cv (fun hs=>abI _ _ l0 ay y3 hy4 (bf hs) ⟨(kM hs),(kM hs),(kM hs),(kM hs)⟩) ?_;refine oe gZ ?_;refine on ?_;refine cc rfl hM (fun jL hM=>?_) (fun jL hM=>?_)
 ·refine bI ?_;exact aY (bQ hM)
 refine aX (hK2 _ _ ?_);clear hK2;refine aK fun K5 dI=>?_;refine sr ?_;refine oe (bR (b:=b2)) ?_;obtain⟨y6,qh,hM⟩:=bind_some hM;refine cv (fun hs=>aqo _ _ p0 ah y6 qh (bf hs) ⟨(kM hs),(kM hs),(kM hs),(kM hs),(kM hs),(kM hs),(kM hs)⟩) ?_;refine on ?_;refine cc rfl hM (fun hc8 hM=>?_) (fun hc8 hM=>?_)
 ·refine bI ?_;exact aY (bQ hM)
 refine aX (dI _ _ ?_);clear dI;refine aK fun K8 gV=>?_;refine sr ?_;refine oe (av 0) ?_;refine oe (aF (b:=b2)) ?_;obtain⟨y9,zR,hM⟩:=bind_some hM;refine cv (fun hs=>zh _ _ p0.bU 2 7200 y9 zR (bf hs)) ?_;refine oe fq ?_;refine on ?_;refine cc rfl hM (fun zL hM=>?_) (fun zL hM=>?_)
 ·refine bI ?_;exact aY (bQ hM)
 refine aX (gV _ _ ?_);clear gV;refine aK fun rQ gG=>?_;refine bI ?_;refine bH ?_;refine lq hM (fun bg=>[(2,eP b1),(3,eP b2),(5,eI (bg:Int))]) (fun bg=>[iL l0.aU ay.1,iL l0.bG ay.2.1,iL l0.Sections ay.2.2.1,iL l0.Links ay.2.2.2,own b1 26 (cK l0 ay),iL p0.aR ah.1,iL p0.Routes ah.2.1,iL p0.Lines ah.2.2.1,iL p0.Changes ah.2.2.2.1,iL p0.Turns ah.2.2.2.2.1,iL p0.bE ah.2.2.2.2.2.1,iL p0.bF ah.2.2.2.2.2.2,own b2 35 (dh p0 ah)]) sS rI ?_
 clear hM;rintro bA bg hM iG hL1;dsimp only[WM] at hM ⊢;refine aK fun yD jO=>?_;refine aW ?_;refine oe (av 1) ?_;refine oe (aF (b:=b2)) ?_;refine oe bL ?_;refine oe bY ?_;refine on ?_;refine cc rfl hM (fun qD hM=>?_) (fun qD hM=>?_)
 ·refine aX (jO _ _ ?_);clear jO;refine aK fun zA jZ=>?_;refine bH ?_;refine sr ?_;refine oe (bR (b:=b2)) ?_;refine om ?_;obtain⟨y13,xS,hM⟩:=bind_some hM;refine cv (fun hs=>aqs _ _ p0 ah (bg:Int) y13 xS (bf hs) ⟨(kM hs),(kM hs),(kM hs),(kM hs),(kM hs),(kM hs),(kM hs)⟩) ?_;refine aT ?_;refine aW ?_;refine oe gZ ?_;refine on ?_;refine cc rfl hM (fun xQ hM=>?_) (fun xQ hM=>?_)
  · refine aW ?_;refine aT ?_;exact aY (bQ hM)
  refine aX (jZ _ _ ?_);clear jZ;refine bB ?_;refine om ?_;refine oP hM fun hM=>?_;refine oa ?_;refine bC (hL1 hM sS rI)
 refine dK (gG _ _ ?_);clear gG;dsimp only[WV] at hM;refine aK fun EN nX=>?_;refine bI ?_;refine bH ?_;refine lq hM (fun jA=>[(2,eP b1),(3,eP b2),(7,eI (jA:Int))]) (fun jA=>[iL l0.aU ay.1,iL l0.bG ay.2.1,iL l0.Sections ay.2.2.1,iL l0.Links ay.2.2.2,own b1 26 (cK l0 ay),iL p0.aR ah.1,iL p0.Routes ah.2.1,iL p0.Lines ah.2.2.1,iL p0.Changes ah.2.2.2.1,iL p0.Turns ah.2.2.2.2.1,iL p0.bE ah.2.2.2.2.2.1,iL p0.bF ah.2.2.2.2.2.2,own b2 35 (dh p0 ah)]) sS rI ?_
 clear hM;rintro fE jA hM wH hL2;dsimp only[WO] at hM ⊢;refine aK fun Ph vS=>?_;refine aW ?_;refine oe (av 2) ?_;refine oe (aF (b:=b2)) ?_;refine oe bL ?_;refine oe bY ?_;refine on ?_;refine cc rfl hM (fun hc17 hM=>?_) (fun hc17 hM=>?_)
 ·refine aX (vS _ _ ?_);clear vS;refine aK fun Pj tX=>?_;refine bH ?_;refine aK fun UG yM=>?_;refine gy _ (List.Sublist.refl _) ?_;refine ak 0 rfl (bR (b:=b1)) ?_;refine ak 1 rfl (av 2) ?_;refine ak 2 rfl (aF (b:=b2)) ?_;refine ak 3 rfl aL ?_;obtain⟨x18,Fp,hM⟩:=bind_some hM;refine ak 4 rfl (bD (xs:=p0.Routes) 2 (kG p0.Routes ah.2.1) (iS Fp)) ?_;refine ak 5 rfl (fM (m:=2) (i:=(jA:Int)) (xs:=p0.Routes) (y:=x18) (l:=(jC x18 (ah.2.1.es (jA:Int).toNat))) 0 (kG p0.Routes ah.2.1) (fun _=>Fp)) ?_;obtain⟨y20,Cq,hM⟩:=bind_some hM;refine dH 6 rfl (sV (fun hs=>ahg _ _ l0 ay x18 (ah.2.1.es (jA:Int).toNat) y20 Cq (bf hs) ⟨(kM hs),(kM hs),(kM hs),(kM hs)⟩ (Kn.lend ((Sk.elem (Sk.dw (α:=List aO) (r:=ah.2.1) (x:=p0.Routes) hA) Fp)).kn hs)) ⟨rI,?_⟩);refine ak 7 rfl dD ?_;refine dP (yM _ _ ?_);clear yM;refine aW ?_;refine oe gZ ?_;refine on ?_;refine cc rfl hM (fun hc22 hM=>?_) (fun hc22 hM=>?_)
  · refine aW ?_;refine aT ?_;exact aY (bQ hM)
  refine aX (tX _ _ ?_);clear tX;refine bB ?_;refine om ?_;refine oP hM fun hM=>?_;refine oa ?_;refine bC (hL2 hM sS rI)
 refine dK (nX _ _ ?_);clear nX;dsimp only[WW] at hM;refine aK fun UH yN=>?_;refine bI ?_;refine bH ?_;refine lq hM (fun fO=>[(2,eP b1),(3,eP b2),(9,eI (fO:Int))]) (fun fO=>[iL l0.aU ay.1,iL l0.bG ay.2.1,iL l0.Sections ay.2.2.1,iL l0.Links ay.2.2.2,own b1 26 (cK l0 ay),iL p0.aR ah.1,iL p0.Routes ah.2.1,iL p0.Lines ah.2.2.1,iL p0.Changes ah.2.2.2.1,iL p0.Turns ah.2.2.2.2.1,iL p0.bE ah.2.2.2.2.2.1,iL p0.bF ah.2.2.2.2.2.2,own b2 35 (dh p0 ah)]) sS rI ?_
 clear hM;rintro jX fO hM Gi hL3;dsimp only[WQ] at hM ⊢;refine aK fun LC sK=>?_;refine aW ?_;refine oe (av 3) ?_;refine oe (aF (b:=b2)) ?_;refine oe bL ?_;refine oe bY ?_;refine on ?_;refine cc rfl hM (fun hc24 hM=>?_) (fun hc24 hM=>?_)
 ·refine aX (sK _ _ ?_);clear sK;refine aK fun UK yP=>?_;refine bH ?_;refine sr ?_;refine oe (bR (b:=b1)) ?_;refine oe (bR (b:=b2)) ?_;refine om ?_;obtain⟨y25,Fx,hM⟩:=bind_some hM;refine cv (fun hs=>aqp _ _ l0 ay p0 ah (fO:Int) y25 Fx (bf hs) ⟨(kM hs),(kM hs),(kM hs),(kM hs)⟩ ⟨(kM hs),(kM hs),(kM hs),(kM hs),(kM hs),(kM hs),(kM hs)⟩) ?_;refine aT ?_;refine aW ?_;refine oe gZ ?_;refine on ?_;refine cc rfl hM (fun hc27 hM=>?_) (fun hc27 hM=>?_)
  · refine aW ?_;refine aT ?_;exact aY (bQ hM)
  refine aX (yP _ _ ?_);clear yP;refine bB ?_;refine om ?_;refine oP hM fun hM=>?_;refine oa ?_;refine bC (hL3 hM sS rI)
 refine dK (yN _ _ ?_);clear yN;dsimp only[WX] at hM;refine aK fun Yp Ch=>?_;refine bI ?_;refine bH ?_;refine lq hM (fun lV=>[(2,eP b1),(3,eP b2),(11,eI (lV:Int))]) (fun lV=>[iL l0.aU ay.1,iL l0.bG ay.2.1,iL l0.Sections ay.2.2.1,iL l0.Links ay.2.2.2,own b1 26 (cK l0 ay),iL p0.aR ah.1,iL p0.Routes ah.2.1,iL p0.Lines ah.2.2.1,iL p0.Changes ah.2.2.2.1,iL p0.Turns ah.2.2.2.2.1,iL p0.bE ah.2.2.2.2.2.1,iL p0.bF ah.2.2.2.2.2.2,own b2 35 (dh p0 ah)]) sS rI ?_
 clear hM;rintro oH lV hM Pm hL4;dsimp only[WR] at hM ⊢;refine aK fun Yq Ci=>?_;refine aW ?_;refine oe (av 4) ?_;refine oe (aF (b:=b2)) ?_;refine oe bL ?_;refine oe bY ?_;refine on ?_;refine cc rfl hM (fun hc29 hM=>?_) (fun hc29 hM=>?_)
 ·refine aX (Ci _ _ ?_);clear Ci;refine aK fun K39 Qm=>?_;refine bH ?_;refine aK fun K40 GL=>?_;refine gy _ (List.Sublist.refl _) ?_;refine ak 0 rfl (bR (b:=b1)) ?_;refine ak 1 rfl (bR (b:=b2)) ?_;refine ak 2 rfl (av 4) ?_;refine ak 3 rfl (aF (b:=b2)) ?_;refine ak 4 rfl aL ?_;obtain⟨x30,hx31,hM⟩:=bind_some hM;refine ak 5 rfl (bD (xs:=p0.Changes) 7 (kG p0.Changes ah.2.2.2.1) (iS hx31)) ?_;refine ak 6 rfl (fM (m:=7) (i:=(lV:Int)) (xs:=p0.Changes) (y:=x30) (l:=(Ep x30)) 0 (kG p0.Changes ah.2.2.2.1) (fun _=>hx31)) ?_;obtain⟨y32,QU,hM⟩:=bind_some hM;refine dH 7 rfl (sV (fun hs=>aqn _ _ l0 ay p0 ah x30 y32 QU (bf hs) ⟨(kM hs),(kM hs),(kM hs),(kM hs)⟩ ⟨(kM hs),(kM hs),(kM hs),(kM hs),(kM hs),(kM hs),(kM hs)⟩) ⟨rI,?_⟩);refine ak 8 rfl dD ?_;refine dP (GL _ _ ?_);clear GL;refine aW ?_;refine oe gZ ?_;refine on ?_;refine cc rfl hM (fun hc34 hM=>?_) (fun hc34 hM=>?_)
  · refine aW ?_;refine aT ?_;exact aY (bQ hM)
  refine aX (Qm _ _ ?_);clear Qm;refine bB ?_;refine om ?_;refine oP hM fun hM=>?_;refine oa ?_;refine bC (hL4 hM sS rI)
 refine dK (Ch _ _ ?_);clear Ch;dsimp only[WY] at hM;refine aK fun K43 Qo=>?_;refine bI ?_;refine bH ?_;refine lq hM (fun uj=>[(2,eP b1),(3,eP b2),(13,eI (uj:Int))]) (fun uj=>[iL l0.aU ay.1,iL l0.bG ay.2.1,iL l0.Sections ay.2.2.1,iL l0.Links ay.2.2.2,own b1 26 (cK l0 ay),iL p0.aR ah.1,iL p0.Routes ah.2.1,iL p0.Lines ah.2.2.1,iL p0.Changes ah.2.2.2.1,iL p0.Turns ah.2.2.2.2.1,iL p0.bE ah.2.2.2.2.2.1,iL p0.bF ah.2.2.2.2.2.2,own b2 35 (dh p0 ah)]) sS rI ?_
 clear hM;rintro BU uj hM Yr hL5;dsimp only[WS] at hM ⊢;refine aK fun K45 aeo=>?_;refine aW ?_;refine oe (av 5) ?_;refine oe (aF (b:=b2)) ?_;refine oe bL ?_;refine oe bY ?_;refine on ?_;refine cc rfl hM (fun ZF hM=>?_) (fun ZF hM=>?_)
 ·refine aX (aeo _ _ ?_);clear aeo;refine aK fun K47 Qq=>?_;refine bH ?_;refine sr ?_;refine oe (bR (b:=b2)) ?_;refine om ?_;obtain⟨wG,hy38,hM⟩:=bind_some hM;refine cv (fun hs=>aqt _ _ p0 ah (uj:Int) wG hy38 (bf hs) ⟨(kM hs),(kM hs),(kM hs),(kM hs),(kM hs),(kM hs),(kM hs)⟩) ?_;refine aT ?_;refine aW ?_;refine oe gZ ?_;refine on ?_;refine cc rfl hM (fun hc39 hM=>?_) (fun hc39 hM=>?_)
  · refine aW ?_;refine aT ?_;exact aY (bQ hM)
  refine aX (Qq _ _ ?_);clear Qq;refine bB ?_;refine om ?_;refine oP hM fun hM=>?_;refine oa ?_;refine bC (hL5 hM sS rI)
 refine dK (Qo _ _ ?_);clear Qo;dsimp only[WZ] at hM;refine aK fun K51 aeu=>?_;refine bI ?_;refine bH ?_;refine lq hM (fun um=>[(2,eP b1),(3,eP b2),(15,eI (um:Int))]) (fun um=>[iL l0.aU ay.1,iL l0.bG ay.2.1,iL l0.Sections ay.2.2.1,iL l0.Links ay.2.2.2,own b1 26 (cK l0 ay),iL p0.aR ah.1,iL p0.Routes ah.2.1,iL p0.Lines ah.2.2.1,iL p0.Changes ah.2.2.2.1,iL p0.Turns ah.2.2.2.2.1,iL p0.bE ah.2.2.2.2.2.1,iL p0.bF ah.2.2.2.2.2.2,own b2 35 (dh p0 ah)]) sS rI ?_
 clear hM;rintro Gv um hM KL6 hL6;dsimp only[WT] at hM ⊢;refine aK fun K53 Qs=>?_;refine aW ?_;refine oe (av 6) ?_;refine oe (aF (b:=b2)) ?_;refine oe bL ?_;refine oe bY ?_;refine on ?_;refine cc rfl hM (fun GN hM=>?_) (fun GN hM=>?_)
 ·refine aX (Qs _ _ ?_);clear Qs;refine aK fun K55 aev=>?_;refine bH ?_;refine sr ?_;refine oe (av 6) ?_;refine oe (aF (b:=b2)) ?_;refine om ?_;obtain⟨gY,GV,hM⟩:=bind_some hM;refine oe (bD (xs:=p0.bE) 5 (kG p0.bE ah.2.2.2.2.2.1) (iS GV)) ?_;refine oe (fM (m:=5) (i:=(um:Int)) (xs:=p0.bE) (y:=gY) (l:=(FK gY)) 0 (kG p0.bE ah.2.2.2.2.2.1) (fun _=>GV)) ?_;refine oA rfl fun qN=>?_;refine oS qN (FK gY) ?_;refine on ?_;refine sr ?_;refine oe (bR (b:=b2)) ?_;refine oe (av 0) ?_;refine oe (aF (b:=qN)) ?_;refine oe (av 1) ?_;refine oe (aF (b:=qN)) ?_;obtain⟨DJ,aat,hM⟩:=bind_some hM;refine cv (fun hs=>Xd _ _ p0 ah gY.mJ gY.lG DJ aat (bf hs) ⟨(kM hs),(kM hs),(kM hs),(kM hs),(kM hs),(kM hs),(kM hs)⟩) ?_;refine oe fq ?_;refine om ?_;refine aD rfl (bR (b:=b2)) ?_;refine aD rfl (av 2) ?_
  refine aD rfl (aF (b:=qN)) ?_;refine aD rfl (av 3) ?_;refine aD rfl (aF (b:=qN)) ?_;obtain⟨DK,aau,hM⟩:=bind_some hM;refine cg rfl (fun hg hs=>Xd _ _ p0 ah gY.mP gY.lN DK (eF aau hg) (bf hs) ⟨(kM hs),(kM hs),(kM hs),(kM hs),(kM hs),(kM hs),(kM hs)⟩) ?_;refine aD rfl fq ?_;refine oe dQ ?_;refine om ?_;refine aD rfl (av 0) ?_;refine aD rfl (aF (b:=qN)) ?_;refine aD rfl (av 2) ?_;refine aD rfl (aF (b:=qN)) ?_;refine aD rfl dU ?_;refine aD rfl aL ?_;refine aD rfl (av 1) ?_;refine aD rfl (aF (b:=qN)) ?_;refine aD rfl (av 3) ?_;refine aD rfl (aF (b:=qN)) ?_;refine aD rfl dU ?_;refine aD rfl dG ?_;refine oe dQ ?_;refine om ?_;refine aD rfl (av 4) ?_;refine aD rfl (aF (b:=qN)) ?_;refine aD rfl (av 0) ?_;refine aD rfl (aF (b:=b2)) ?_;obtain⟨akU,hM⟩:=bW hM;refine aD rfl (ng (hr:=fun hg=>dY (Cb akU hg))) ?_;obtain⟨jB,QV,hM⟩:=bind_some hM;refine cg rfl (fun hg hs=>zh _ _ gY.Offset 0 (p0.bU-1) jB (eF QV hg) (bf hs)) ?_;refine aD rfl fq ?_;refine oe dQ ?_;refine on ?_;refine cc rfl hM (fun ZJ hM=>?_) (fun ZJ hM=>?_)
  · refine bI ?_;exact aY (bQ hM)
  refine aX (aev _ _ ?_);clear aev;refine bB ?_;refine om ?_;refine oP hM fun hM=>?_;refine oa ?_;refine bC (hL6 hM sS rI)
 refine dK (aeu _ _ ?_);clear aeu;dsimp only[W9] at hM;refine aK fun K59 aew=>?_;refine bI ?_;refine bH ?_;refine lq hM (fun uo=>[(2,eP b1),(3,eP b2),(17,eI (uo:Int))]) (fun uo=>[iL l0.aU ay.1,iL l0.bG ay.2.1,iL l0.Sections ay.2.2.1,iL l0.Links ay.2.2.2,own b1 26 (cK l0 ay),iL p0.aR ah.1,iL p0.Routes ah.2.1,iL p0.Lines ah.2.2.1,iL p0.Changes ah.2.2.2.1,iL p0.Turns ah.2.2.2.2.1,iL p0.bE ah.2.2.2.2.2.1,iL p0.bF ah.2.2.2.2.2.2,own b2 35 (dh p0 ah)]) sS rI ?_
 clear hM;rintro Gw uo hM KL7 hL7;dsimp only[WU] at hM ⊢;refine aK fun K61 aex=>?_;refine aW ?_;refine oe (av 7) ?_;refine oe (aF (b:=b2)) ?_;refine oe bL ?_;refine oe bY ?_;refine on ?_;refine cc rfl hM (fun alV hM=>?_) (fun alV hM=>?_)
 ·refine aX (aex _ _ ?_);clear aex;refine aK fun K63 aey=>?_;refine bH ?_;refine sr ?_;refine oe (av 7) ?_;refine oe (aF (b:=b2)) ?_;refine om ?_;obtain⟨x55,ae2,hM⟩:=bind_some hM;refine oe (bD (xs:=p0.bF) 3 (kG p0.bF ah.2.2.2.2.2.2) (iS ae2)) ?_;refine oe (fM (m:=3) (i:=(uo:Int)) (xs:=p0.bF) (y:=x55) (l:=(FJ x55)) 0 (kG p0.bF ah.2.2.2.2.2.2) (fun _=>ae2)) ?_;refine oA rfl fun LV=>?_;refine oS LV (FJ x55) ?_;refine on ?_;refine sr ?_;refine oe (av 0) ?_;refine oe (aF (b:=LV)) ?_;refine oe (av 0) ?_;refine oe (aF (b:=b1)) ?_;refine oe bL ?_;refine oN hM fun hM=>?_;obtain⟨O8,aoe,hM⟩:=bind_some hM;refine cv (fun hs=>zh _ _ x55.From 0 ((l0.aU.length:Int)-1) O8 aoe (bf hs)) ?_;refine oe fq ?_;refine om ?_;refine aD rfl (av 1) ?_;refine aD rfl (aF (b:=LV)) ?_;refine aD rfl (av 0) ?_
  refine aD rfl (aF (b:=b1)) ?_;refine aD rfl bL ?_;obtain⟨akX,hM⟩:=bW hM;refine aD rfl (ng (hr:=fun hg=>dY (Cb akX hg))) ?_;obtain⟨BL,aaw,hM⟩:=bind_some hM;refine cg rfl (fun hg hs=>zh _ _ x55.To 0 ((l0.aU.length:Int)-1) BL (eF aaw hg) (bf hs)) ?_;refine aD rfl fq ?_;refine oe dQ ?_;refine om ?_;refine aD rfl (av 0) ?_;refine aD rfl (aF (b:=LV)) ?_;refine aD rfl (av 1) ?_;refine aD rfl (aF (b:=LV)) ?_;refine aD rfl dU ?_;refine oe dQ ?_;refine om ?_;refine aD rfl (av 2) ?_;refine aD rfl (aF (b:=LV)) ?_;obtain⟨y64,aof,hM⟩:=bind_some hM;refine cg rfl (fun hg hs=>zh _ _ x55.Weight 1 1048576 y64 (eF aof hg) (bf hs)) ?_;refine aD rfl fq ?_;refine oe dQ ?_;refine on ?_;refine cc rfl hM (fun alY hM=>?_) (fun alY hM=>?_)
  · refine bI ?_;exact aY (bQ hM)
  refine aX (aey _ _ ?_);clear aey;refine bB ?_;refine om ?_;refine oP hM fun hM=>?_;refine oa ?_;refine bC (hL7 hM sS rI)
 refine dK (aew _ _ ?_);clear aew;dsimp only[ab1] at hM;refine bI ?_;exact aY (bQ hM)
end Go.Proofs.YtcalibhfgdncaaaGreatDoor

/- Models of functions, and that the code computes them. -/
import Derived.Test.YtcalibhfgdncaaaGreatDoorR0
set_option linter.all false
namespace Go.Proofs.YtcalibhfgdncaaaGreatDoor
open Go.Dc Go.RowKit
set_option maxRecDepth 10000
def V6(c0:Int):Option Bool:=
 some ((decide (97≤c0)&&decide (c0≤122))||(decide (65≤c0)&&decide (c0≤90)))
theorem afK(S:bB)(w:World)(c0:Int)(y:Bool)(hM:V6 c0=some y)(hS:sB S w):
  Calls Tryz.prog 165 #[.int .u8 c0] w (cu w (.bool y)):=by
 refine bP (args:=[_]) Tryz.func165 rfl ((pre_nil hS).start) rfl ?_;unfold V6 at hM;refine bD ?_;refine aO ?_;refine oe jf ?_;refine om ?_;refine av rfl aH ?_;refine av rfl pU ?_;refine oe dI ?_;refine om ?_;refine av rfl aH ?_;refine av rfl jf ?_;refine av rfl aH ?_;refine av rfl aH ?_;refine av rfl pU ?_;refine av rfl dI ?_;refine oe eT ?_;refine aP ?_;exact aW (bN hM)
def afz:Unit→Option Bool:=fun _=>
 some true
def afy(s0:Str)(aY:Nat→Option Bool):Nat→Option Bool:=fun bM=>
 if decide ((bM:Int)<(s0.l.length:Int)) then
  ((lX s0 (bM:Int)).bind fun c7=>
  (V6 c7).bind fun y9=>
  (fV (!y9) 0 (lX s0 (bM:Int))).bind fun c11=>
  (fV (!y9) default (VZ c11)).bind fun y13=>
  (fV ((!y9)&&(!y13)) 0 (lX s0 (bM:Int))).bind fun c15=>
  if (((!y9)&&(!y13))&&decide (c15≠95)) then
   (some false)
  else
   (bG (bW ((bM:Int)+1))<|
   aY (bM+1)))
 else
  (afz ())
def aaZ(s0:Str):Option Bool:=
 (fV (!(decide ((s0.l.length:Int)<1)||decide (12<(s0.l.length:Int)))) 0 (lX s0 0)).bind fun c1=>
 (fV (!(decide ((s0.l.length:Int)<1)||decide (12<(s0.l.length:Int)))) default (V6 c1)).bind fun y3=>
 if ((decide ((s0.l.length:Int)<1)||decide (12<(s0.l.length:Int)))||(!y3)) then
  (some false)
 else
  (iter (afy s0) FUEL 1)
theorem aod(S:bB)(w:World)(s0:Str)(y:Bool)(hM:aaZ s0=some y)(hS:sB S w):
   Calls Tryz.prog 117 #[.string s0.ba] w (cu w (.bool y)):=by
 refine bP (args:=[_]) Tryz.func117 rfl ((pre_nil hS).start) rfl ?_;unfold aaZ at hM;refine bD ?_;refine aG fun K2 hK2=>?_;refine aO ?_;refine oe mZ ?_;refine oe cO ?_;refine om ?_;refine av rfl aH ?_;refine av rfl mZ ?_;refine av rfl iw ?_;refine oe eT ?_;refine om ?_;refine av rfl aH ?_;obtain⟨c1,PD,hM⟩:=bind_some hM;refine av rfl (qp (fu PD)) ?_;obtain⟨y3,hy4,hM⟩:=bind_some hM;refine cg rfl (fun hg hs=>afK _ _ c1 y3 (fu hy4 hg) (bC hs)) ?_;refine av rfl fF ?_;refine oe eT ?_;refine on ?_;refine cc rfl hM (fun jA hM=>?_) (fun jA hM=>?_)
 ·refine bD ?_;exact aW (bN hM)
 refine aX (hK2 _ _ ?_);clear hK2;refine aG fun K5 bS=>?_;refine bD ?_;refine bF ?_;refine lq hM (fun bM=>[(0,.v (.string s0.ba)),(3,eI (bM:Int))]) (fun bM=>[]) sS rI ?_;clear hM;rintro aY bM hM gu hL1;dsimp only[afy] at hM ⊢;refine aG fun K7 dZ=>?_;refine aO ?_;refine om ?_;refine oe mZ ?_;refine oe cO ?_;refine on ?_;refine cc rfl hM (fun hc6 hM=>?_) (fun hc6 hM=>?_)
 ·refine aX (dZ _ _ ?_);clear dZ;refine aG fun K9 dU=>?_;refine bF ?_;refine aO ?_;refine om ?_;obtain⟨c7,aku,hM⟩:=bind_some hM;refine oe (qp (fun _=>aku)) ?_;obtain⟨y9,EN,hM⟩:=bind_some hM;refine cv (fun hs=>afK _ _ c7 y9 EN (bC hs)) ?_;refine oe fF ?_;refine om ?_;refine av rfl aH ?_;refine av rfl aH ?_;obtain⟨c11,Pz,hM⟩:=bind_some hM;refine av rfl (qp (fu Pz)) ?_;obtain⟨y13,xC,hM⟩:=bind_some hM;refine cg rfl (fun hg hs=>afG _ _ c11 y13 (fu xC hg) (bC hs)) ?_;refine av rfl fF ?_;refine oe dI ?_;refine om ?_;refine av rfl aH ?_;refine av rfl aH ?_;obtain⟨c15,akp,hM⟩:=bind_some hM;refine av rfl (qp (fu akp)) ?_;refine av rfl iy ?_;refine oe dI ?_;refine on ?_;refine cc rfl hM (fun hc17 hM=>?_) (fun hc17 hM=>?_)
  · refine bD ?_;exact aW (bN hM)
  refine aX (dU _ _ ?_);clear dU;refine aZ ?_;refine om ?_;refine oP hM fun hM=>?_;refine oa ?_;refine bf (hL1 hM sS rI)
 refine dL (bS _ _ ?_);clear bS;dsimp only[afz] at hM;refine bD ?_;exact aW (bN hM)
def afO:Unit→Option Int:=fun _=>
 some 0
def afN(i0:Int)(l0:List Str)(aY:Nat→Option Int):Nat→Option Int:=fun EW=>
 if decide ((EW:Int)<i0) then
  ((idx l0 (EW:Int)).bind fun x7=>
  (idx l0 i0).bind fun x9=>
  if decide (x7=x9) then
   (some 5)
  else
   (bG (bW ((EW:Int)+1))<|
   aY (EW+1)))
 else
  (afO ())
def Sc(l0:List Str)(i0:Int):Option Int:=
 (idx l0 i0).bind fun x1=>
 (aaZ x1).bind fun y3=>
 if (!y3) then
  (some 3)
 else
  (iter (afN i0 l0) FUEL 0)
theorem aa9(S:bB)(w:World)(l0:List Str)(aC:ak.R (List Str))(i0:Int)(y:Int)(hM:Sc l0 i0=some y)(hS:sB S w)(fG:ak.ok S w aC l0):
   Calls Tryz.prog 51 #[sL aC l0,vI i0] w (cu w (vI y)):=by
 refine bP (args:=[_,_]) Tryz.func51 rfl ((pre_nil hS).start |>.bU (α:=List Str) (r:=aC) (x:=l0) fG) rfl ?_;unfold Sc at hM;refine bD ?_;refine aG fun K2 hK2=>?_;refine aO ?_;refine om ?_;obtain⟨x1,hx2,hM⟩:=bind_some hM;refine oe (bI (xs:=l0) 1 (kG l0 aC) (iS hx2)) ?_;refine oe (dh (i:=i0) (xs:=l0) (y:=x1) 0 (kG l0 aC) (fun _=>hx2)) ?_;obtain⟨y3,hy4,hM⟩:=bind_some hM;refine cv (fun hs=>aod _ _ x1 y3 hy4 (bC hs)) ?_;refine oe fF ?_;refine on ?_;refine cc rfl hM (fun jA hM=>?_) (fun jA hM=>?_)
 ·refine bD ?_;exact aW (bN hM)
 refine aX (hK2 _ _ ?_);clear hK2;refine aG fun K5 bS=>?_;refine bD ?_;refine bF ?_;refine lq hM (fun EW=>[(0,eS aC l0),(1,eI i0),(5,eI (EW:Int))]) (fun EW=>[iL l0 aC]) sS rI ?_;clear hM;rintro aY EW hM gu hL1;dsimp only[afN] at hM ⊢;refine aG fun K7 dZ=>?_;refine aO ?_;refine om ?_;refine oe cO ?_;refine on ?_;refine cc rfl hM (fun hc6 hM=>?_) (fun hc6 hM=>?_)
 ·refine aX (dZ _ _ ?_);clear dZ;refine aG fun K9 dU=>?_;refine bF ?_;refine aG fun uN gX=>?_;refine iD _ (List.Sublist.refl _) ?_;refine ay 0 rfl aH ?_;refine ay 1 rfl aH ?_;obtain⟨x7,hx8,hM⟩:=bind_some hM;refine ay 2 rfl (bI (xs:=l0) 1 (kG l0 aC) (iS hx8)) ?_;refine ay 3 rfl (dh (i:=(EW:Int)) (xs:=l0) (y:=x7) 0 (kG l0 aC) (fun _=>hx8)) ?_;refine ay 4 rfl aH ?_;refine ay 5 rfl aH ?_;obtain⟨x9,ni,hM⟩:=bind_some hM;refine ay 6 rfl (bI (xs:=l0) 1 (kG l0 aC) (iS ni)) ?_;refine ay 7 rfl (dh (i:=i0) (xs:=l0) (y:=x9) 0 (kG l0 aC) (fun _=>ni)) ?_;refine ay 8 rfl mF ?_;refine dY (gX _ _ ?_);clear gX;refine cc rfl hM (fun BR hM=>?_) (fun BR hM=>?_)
  · refine bD ?_;exact aW (bN hM)
  refine aX (dU _ _ ?_);clear dU;refine aZ ?_;refine om ?_;refine oP hM fun hM=>?_;refine oa ?_;refine bf (hL1 hM sS rI)
 refine dL (bS _ _ ?_);clear bS;dsimp only[afO] at hM;refine bD ?_;exact aW (bN hM)
def Bb(n0:Int)(su:Int)(hi0:Int):Option Bool:=
 some (decide (su≤n0)&&decide (n0≤hi0))
theorem DT(S:bB)(w:World)(n0:Int)(su:Int)(hi0:Int)(y:Bool)(hM:Bb n0 su hi0=some y)(hS:sB S w):
  Calls Tryz.prog 53 #[vI n0,vI su,vI hi0] w (cu w (.bool y)):=by
 refine bP (args:=[_,_,_]) Tryz.func53 rfl ((pre_nil hS).start) rfl ?_;unfold Bb at hM;refine bD ?_;refine aO ?_;refine om ?_;refine oe jf ?_;refine om ?_;refine av rfl aH ?_;refine av rfl aH ?_;refine av rfl pU ?_;refine oe dI ?_;refine aP ?_;exact aW (bN hM)
def R9(k0:Link)(x0:qh):Option Bool:=
 some ((decide (k0.A=x0.tH)&&decide (k0.lg=x0.end_))||(decide (k0.B=x0.tH)&&decide (k0.lu=x0.end_)))
theorem aa6(S:bB)(w:World)(k0:Link)(x0:qh)(y:Bool)(hM:R9 k0 x0=some y)(hS:sB S w):
  Calls Tryz.prog 118 #[.agg (ahG k0),.agg (ab3 x0)] w (cu w (.bool y)):=by
 refine bP (args:=[_,_]) Tryz.func118 rfl ((pre_nil hS).start) rfl ?_;unfold R9 at hM;refine sr ?_;refine oB (wF k0) fun b1=>?_;refine oB (Q0 x0) fun b2=>?_;refine aP ?_;refine sr ?_;refine oe (aD 0) ?_;refine oe (aJ (b:=b1)) ?_;refine oe (aD 0) ?_;refine oe (aJ (b:=b2)) ?_;refine oe eu ?_;refine om ?_;refine av rfl (aD 1) ?_;refine av rfl (aJ (b:=b1)) ?_;refine av rfl (aD 1) ?_;refine av rfl (aJ (b:=b2)) ?_;refine av rfl eu ?_;refine oe dI ?_;refine om ?_;refine av rfl (aD 2) ?_;refine av rfl (aJ (b:=b1)) ?_;refine av rfl (aD 0) ?_;refine av rfl (aJ (b:=b2)) ?_;refine av rfl eu ?_;refine av rfl aH ?_;refine av rfl (aD 3) ?_;refine av rfl (aJ (b:=b1)) ?_;refine av rfl (aD 1) ?_;refine av rfl (aJ (b:=b2)) ?_;refine av rfl eu ?_;refine av rfl dI ?_;refine oe eT ?_;refine aP ?_;exact aW (bN hM)
def V3(nS:Nat)(aY:(Int×Int×Int×Int×Int×Int×Int×Nat)→Option Bool):(Int×Int×Int×Int×Int×Int×Int)→Option Bool:=fun (QV,Q9,Ra,Rb,Rc,Rf,Rh)=>
 bG (bW ((nS:Int)+1))<|
 aY (QV,Q9,Ra,Rb,Rc,Rf,Rh,nS+1)
def afI(Ck:Int)(x3:Link)(G6:Int)(G7:Int):Unit→Option Bool:=fun _=>
 some (decide (Ck=0)||(((decide (Ck=1)&&decide (0≤x3.Point))&&decide (G6=x3.Point))&&decide (G7≠x3.Pos)))
def afH(i0:Int)(l0:Layout)(x0:qh)(x3:Link)(aY:(Int×Int×Int×Int×Int×Int×Int×Nat)→Option Bool):(Int×Int×Int×Int×Int×Int×Int×Nat)→Option Bool:=fun (Ck,Q5,Q6,Q7,Q8,G6,G7,nS)=>
 if decide ((nS:Int)<i0) then
  ((idx l0.Links (nS:Int)).bind fun x9=>
  (R9 x9 x0).bind fun fA=>
  if fA then
   (bG (bW (Ck+1))<|
   (idx l0.Links (nS:Int)).bind fun Ed=>
   V3 nS aY ((Ck+1),Ed.A,Ed.lg,Ed.B,Ed.lu,Ed.Point,Ed.Pos))
  else
   (V3 nS aY (Ck,Q5,Q6,Q7,Q8,G6,G7)))
 else
  (afI Ck x3 G6 G7 ())
def V4(l0:Layout)(i0:Int)(x0:qh):Option Bool:=
 (idx l0.Links i0).bind fun x3=>
 iter (afH i0 l0 x0 x3) FUEL (0,0,0,0,0,0,0,0)
theorem afJ(S:bB)(w:World)(l0:Layout)(aC:ak.R Layout)(i0:Int)(x0:qh)(y:Bool)(hM:V4 l0 i0 x0=some y)(hS:sB S w)(fG:ak.ok S w aC l0):
   Calls Tryz.prog 119 #[.agg (lC l0 aC),vI i0,.agg (ab3 x0)] w (cu w (.bool y)):=by
 refine bP (args:=[_,_,_]) Tryz.func119 rfl ((pre_nil hS).start |>.lS fG) rfl ?_;unfold V4 at hM;refine sr ?_;refine oB (dP l0 aC) fun b1=>?_;refine oB (Q0 x0) fun b2=>?_;refine aP ?_;refine sr ?_;refine oe (aD 3) ?_;refine oe (aJ (b:=b1)) ?_;refine om ?_;obtain⟨x3,hx4,hM⟩:=bind_some hM;refine oe (bI (xs:=l0.Links) 6 (kG l0.Links aC.2.2.2) (iS hx4)) ?_;refine oe (fO (m:=6) (i:=i0) (xs:=l0.Links) (y:=x3) (l:=(wF x3)) 0 (kG l0.Links aC.2.2.2) (fun _=>hx4)) ?_;refine oA rfl fun b5=>?_;refine oS b5 (wF x3) ?_
 refine on ?_;refine sr ?_;refine oe (fT [vI 0,vI 0,vI 0,vI 0,vI 0,vI 0]) ?_;refine oA rfl fun b6=>?_;refine oa ?_;refine oS b6 [vI 0,vI 0,vI 0,vI 0,vI 0,vI 0] ?_;refine on ?_;refine aG fun K4 hK4=>?_;refine bD ?_;refine bF ?_;refine lq hM (fun (Ck,Q5,Q6,Q7,Q8,G6,G7,nS)=>[(1,eI i0),(3,eP b1),(5,eP b2),(7,eP b5),(8,eI Ck),(9,eP b6),(10,eI (nS:Int))]) (fun (Ck,Q5,Q6,Q7,Q8,G6,G7,nS)=>[iL l0.aM aC.1,iL l0.aV aC.2.1,iL l0.Sections aC.2.2.1,iL l0.Links aC.2.2.2,own b1 26 (dP l0 aC),own b2 185 (Q0 x0),own b5 183 (wF x3),own b6 183 [vI Q5,vI Q6,vI Q7,vI Q8,vI G6,vI G7]]) sS rI ?_
 clear hM;rintro aY ⟨Ck,Q5,Q6,Q7,Q8,G6,G7,nS⟩ hM gu hL1;dsimp only[afH] at hM ⊢;refine aG fun K6 bZ=>?_;refine aO ?_;refine om ?_;refine oe cO ?_;refine on ?_;refine cc rfl hM (fun jR hM=>?_) (fun jR hM=>?_)
 ·refine aX (bZ _ _ ?_);clear bZ;refine jm y (k:=V3 nS aY) (fun (QV,Q9,Ra,Rb,Rc,Rf,Rh)=>[(1,eI i0),(3,eP b1),(5,eP b2),(7,eP b5),(8,eI QV),(9,eP b6),(10,eI (nS:Int))]) (fun (QV,Q9,Ra,Rb,Rc,Rf,Rh)=>[iL l0.aM aC.1,iL l0.aV aC.2.1,iL l0.Sections aC.2.2.1,iL l0.Links aC.2.2.2,own b1 26 (dP l0 aC),own b2 185 (Q0 x0),own b5 183 (wF x3),own b6 183 [vI Q9,vI Ra,vI Rb,vI Rc,vI Rf,vI Rh]]) ?_ ?_
  · intro za hJ2;refine bF ?_;refine aG fun K8 eZ=>?_;refine iD _ (List.Sublist.refl _) ?_;refine ay 0 rfl (aD 3) ?_;refine ay 1 rfl (aJ (b:=b1)) ?_;refine ay 2 rfl aH ?_;obtain⟨x9,ni,hM⟩:=bind_some hM;refine ay 3 rfl (bI (xs:=l0.Links) 6 (kG l0.Links aC.2.2.2) (iS ni)) ?_;refine ay 4 rfl (fO (m:=6) (i:=(nS:Int)) (xs:=l0.Links) (y:=x9) (l:=(wF x9)) 0 (kG l0.Links aC.2.2.2) (fun _=>ni)) ?_;refine ay 5 rfl (bX (b:=b2)) ?_;obtain⟨fA,uX,hM⟩:=bind_some hM;refine eD 6 rfl (sV (fun hs=>aa6 _ _ x9 x0 fA uX (bC hs)) ⟨rI,?_⟩);refine dY (eZ _ _ ?_);clear eZ;refine cc rfl hM (fun BS hM=>?_) (fun BS hM=>?_)
    ·refine aO ?_;refine oP hM fun hM=>?_;refine aP ?_;refine aZ ?_;refine oe (aD 3) ?_;refine oe (aJ (b:=b1)) ?_;refine om ?_;obtain⟨Ed,hx16,hM⟩:=bind_some hM;refine oe (bI (xs:=l0.Links) 6 (kG l0.Links aC.2.2.2) (iS hx16)) ?_;refine oe (fO (m:=6) (i:=(nS:Int)) (xs:=l0.Links) (y:=Ed) (l:=(wF Ed)) 0 (kG l0.Links aC.2.2.2) (fun _=>hx16)) ?_;refine oS b6 (wF Ed) ?_;refine bf (hJ2 hM sS rI)
    refine aX (hJ2 hM sS rI)
  clear hM;rintro⟨QV,Q9,Ra,Rb,Rc,Rf,Rh⟩ hM;dsimp only[V3] at hM ⊢;refine aZ ?_;refine om ?_;refine oP hM fun hM=>?_;refine oa ?_;refine bf (hL1 hM sS rI)
 refine dL (hK4 _ _ ?_);clear hK4;dsimp only[afI] at hM;refine aO ?_;refine oe eu ?_;refine om ?_;refine av rfl aH ?_;refine av rfl eu ?_;refine av rfl aH ?_;refine av rfl (aD 4) ?_;refine av rfl (aJ (b:=b5)) ?_;refine av rfl jf ?_;refine av rfl dI ?_;refine av rfl aH ?_;refine av rfl (aD 4) ?_;refine av rfl (aJ (b:=b6)) ?_;refine av rfl (aD 4) ?_;refine av rfl (aJ (b:=b5)) ?_;refine av rfl eu ?_;refine av rfl dI ?_;refine av rfl aH ?_;refine av rfl (aD 5) ?_;refine av rfl (aJ (b:=b6)) ?_;refine av rfl (aD 5) ?_;refine av rfl (aJ (b:=b5)) ?_;refine av rfl iy ?_;refine av rfl dI ?_;refine oe eT ?_;refine aP ?_;exact aW (bN hM)
def afM(l0:Layout)(i0:Int)(x2:Link):Unit→Option Int:=fun _=>
 (V4 l0 i0 (qh.mk x2.A x2.lg)).bind fun XE=>
 (fV (!(!XE)) default (V4 l0 i0 (qh.mk x2.B x2.lu))).bind fun Ah=>
 if ((!XE)||(!Ah)) then
  (some 11)
 else
  (some 0)
def afL(i0:Int)(l0:Layout)(x2:Link)(aY:Nat→Option Int):Nat→Option Int:=fun nS=>
 if decide ((nS:Int)<i0) then
  ((idx l0.Links (nS:Int)).bind fun x23=>
  (R9 x23 (qh.mk x2.A x2.lg)).bind fun y25=>
  (fV y25 default (idx l0.Links (nS:Int))).bind fun x27=>
  (fV y25 default (R9 x27 (qh.mk x2.B x2.lu))).bind fun y29=>
  if (y25&&y29) then
   (some 5)
  else
   (bG (bW ((nS:Int)+1))<|
   aY (nS+1)))
 else
  (afM l0 i0 x2 ())
def aa7(x2:Link)(i0:Int)(l0:Layout):Unit→Option Int:=fun _=>
 if decide ((qh.mk x2.A x2.lg)=(qh.mk x2.B x2.lu)) then
  (some 1)
 else
  (iter (afL i0 l0 x2) FUEL 0)
def aa8(l0:Layout)(i0:Int):Option Int:=
 (idx l0.Links i0).bind fun x2=>
 bG (bW ((l0.Sections.length:Int)-1))<|
 (Bb x2.A 0 ((l0.Sections.length:Int)-1)).bind fun y6=>
 bG (!(!(!y6))||bW ((l0.Sections.length:Int)-1))<|
 (fV (!(!y6)) default (Bb x2.B 0 ((l0.Sections.length:Int)-1))).bind fun y9=>
 (fV (!((!y6)||(!y9))) default (Bb x2.lg 0 1)).bind fun fA=>
 (fV (!(((!y6)||(!y9))||(!fA))) default (Bb x2.lu 0 1)).bind fun y13=>
 bG (!(!((((!y6)||(!y9))||(!fA))||(!y13)))||bW ((l0.aV.length:Int)-1))<|
 (fV (!((((!y6)||(!y9))||(!fA))||(!y13))) default (Bb x2.Point (-1) ((l0.aV.length:Int)-1))).bind fun IU=>
 (fV (!(((((!y6)||(!y9))||(!fA))||(!y13))||(!IU))) default (Bb x2.Pos 0 1)).bind fun jV=>
 if (((((((!y6)||(!y9))||(!fA))||(!y13))||(!IU))||(!jV))||(decide (x2.Point<0)&&decide (x2.Pos≠0))) then
  (some 4)
 else
  (aa7 x2 i0 l0 ())
theorem aoi(S:bB)(w:World)(l0:Layout)(aC:ak.R Layout)(i0:Int)(y:Int)(hM:aa8 l0 i0=some y)(hS:sB S w)(fG:ak.ok S w aC l0):
   Calls Tryz.prog 54 #[.agg (lC l0 aC),vI i0] w (cu w (vI y)):=by
 refine bP (args:=[_,_]) Tryz.func54 rfl ((pre_nil hS).start |>.lS fG) rfl ?_;unfold aa8 at hM;refine sr ?_;refine oB (dP l0 aC) fun b1=>?_;refine aP ?_;refine sr ?_;refine oe (aD 3) ?_;refine oe (aJ (b:=b1)) ?_;refine om ?_;obtain⟨x2,hx3,hM⟩:=bind_some hM;refine oe (bI (xs:=l0.Links) 6 (kG l0.Links aC.2.2.2) (iS hx3)) ?_;refine oe (fO (m:=6) (i:=i0) (xs:=l0.Links) (y:=x2) (l:=(wF x2)) 0 (kG l0.Links aC.2.2.2) (fun _=>hx3)) ?_;refine oA rfl fun b4=>?_;refine oS b4 (wF x2) ?_
 refine on ?_;refine sr ?_;refine oe (aD 2) ?_;refine oe (aJ (b:=b1)) ?_;refine oe bJ ?_;refine aP ?_;refine aG fun K4 hK4=>?_;refine sr ?_;refine oe (aD 0) ?_;refine oe (aJ (b:=b4)) ?_;refine om ?_;refine oN hM fun hM=>?_;obtain⟨y6,zq,hM⟩:=bind_some hM;refine cv (fun hs=>DT _ _ x2.A 0 ((l0.Sections.length:Int)-1) y6 zq (bC hs)) ?_;refine oe fF ?_;refine om ?_;refine av rfl (aD 2) ?_;refine av rfl (aJ (b:=b4)) ?_;refine av rfl aH ?_;obtain⟨YN,hM⟩:=dw hM;refine av rfl (xk (hr:=fun hg=>fH (Jl YN hg))) ?_;obtain⟨y9,EN,hM⟩:=bind_some hM;refine cg rfl (fun hg hs=>DT _ _ x2.B 0 ((l0.Sections.length:Int)-1) y9 (fu EN hg) (bC hs)) ?_;refine av rfl fF ?_;refine oe eT ?_;refine om ?_;refine av rfl (aD 1) ?_;refine av rfl (aJ (b:=b4)) ?_;obtain⟨fA,uX,hM⟩:=bind_some hM;refine cg rfl (fun hg hs=>DT _ _ x2.lg 0 1 fA (fu uX hg) (bC hs)) ?_;refine av rfl fF ?_;refine oe eT ?_;refine om ?_
 refine av rfl (aD 3) ?_;refine av rfl (aJ (b:=b4)) ?_;obtain⟨y13,xC,hM⟩:=bind_some hM;refine cg rfl (fun hg hs=>DT _ _ x2.lu 0 1 y13 (fu xC hg) (bC hs)) ?_;refine av rfl fF ?_;refine oe eT ?_;refine om ?_;refine av rfl (aD 4) ?_;refine av rfl (aJ (b:=b4)) ?_;refine av rfl (aD 1) ?_;refine av rfl (aJ (b:=b1)) ?_;refine av rfl bJ ?_;obtain⟨YJ,hM⟩:=dw hM;refine av rfl (xk (hr:=fun hg=>fH (Jl YJ hg))) ?_;obtain⟨IU,Zv,hM⟩:=bind_some hM;refine cg rfl (fun hg hs=>DT _ _ x2.Point (-1) ((l0.aV.length:Int)-1) IU (fu Zv hg) (bC hs)) ?_;refine av rfl fF ?_;refine oe eT ?_;refine om ?_;refine av rfl (aD 5) ?_;refine av rfl (aJ (b:=b4)) ?_;obtain⟨jV,xD,hM⟩:=bind_some hM;refine cg rfl (fun hg hs=>DT _ _ x2.Pos 0 1 jV (fu xD hg) (bC hs)) ?_;refine av rfl fF ?_;refine oe eT ?_;refine om ?_;refine av rfl (aD 4) ?_;refine av rfl (aJ (b:=b4)) ?_;refine av rfl cO ?_;refine av rfl aH ?_;refine av rfl (aD 5) ?_;refine av rfl (aJ (b:=b4)) ?_;refine av rfl iy ?_;refine av rfl dI ?_;refine oe eT ?_;refine on ?_
 refine cc rfl hM (fun Dr hM=>?_) (fun Dr hM=>?_)
 ·refine bD ?_;exact aW (bN hM)
 refine aX (hK4 _ _ ?_);clear hK4;refine jn (Nat×Nat) y (k:=aa7 x2 i0 l0) (fun _ (Et,Ew)=>[(1,eI i0),(2,eP b1),(7,eP Et),(8,eP Ew)]) (fun _ (Et,Ew)=>[iL l0.aM aC.1,iL l0.aV aC.2.1,iL l0.Sections aC.2.2.1,iL l0.Links aC.2.2.2,own b1 26 (dP l0 aC),own Et 185 [vI x2.A,vI x2.lg],own Ew 185 [vI x2.B,vI x2.lu]]) ?_ ?_
 ·intro wX fB;refine iD _ (List.Sublist.refl _) ?_;refine ay 0 rfl (aD 0) ?_;refine ay 1 rfl (aJ (b:=b4)) ?_;refine ay 2 rfl (aD 1) ?_;refine ay 3 rfl (aJ (b:=b4)) ?_;refine ay 4 rfl (fT [vI x2.A,vI x2.lg]) ?_;refine ay 5 rfl (aD 2) ?_;refine ay 6 rfl (aJ (b:=b4)) ?_;refine ay 7 rfl (aD 3) ?_;refine ay 8 rfl (aJ (b:=b4)) ?_;refine ay 9 rfl (fT [vI x2.B,vI x2.lu]) ?_;refine lM 10 11 (⟨_,rfl,rfl,gF rfl (k:=fun Gh=>⟨rI,?_⟩)⟩) (⟨_,rfl,rfl,gF rfl (k:=fun Ov=>⟨rI,?_⟩)⟩)
  · refine aA 11 rfl rfl fun Ow=>?_;refine aS 12 rfl Gh [vI x2.A,vI x2.lg] ?_;refine aS 13 rfl Ow [vI x2.B,vI x2.lu] ?_;refine dY (fB (Gh,Ow) hM sS rI)
  refine aA 10 rfl rfl fun Ox=>?_;refine aS 12 rfl Ox [vI x2.A,vI x2.lg] ?_;refine aS 13 rfl Ov [vI x2.B,vI x2.lu] ?_;refine dY (fB (Ox,Ov) hM sS rI)
 clear hM;rintro⟨⟩ ⟨Et,Ew⟩ hM;dsimp only[aa7] at hM ⊢;refine aG fun K7 dZ=>?_;refine sr ?_;refine oe (bX (b:=Et)) ?_;refine oe (bX (b:=Ew)) ?_;refine oe (O1 [.int .i64,.int .i64] (decide ((qh.mk x2.A x2.lg)=(qh.mk x2.B x2.lu))) (ahA _ _)) ?_;refine on ?_;refine cc rfl hM (fun hc21 hM=>?_) (fun hc21 hM=>?_)
 ·refine bD ?_;exact aW (bN hM)
 refine aX (dZ _ _ ?_);clear dZ;refine aG fun uN gX=>?_;refine bD ?_;refine bF ?_;refine lq hM (fun nS=>[(1,eI i0),(2,eP b1),(7,eP Et),(8,eP Ew),(9,eI (nS:Int))]) (fun nS=>[iL l0.aM aC.1,iL l0.aV aC.2.1,iL l0.Sections aC.2.2.1,iL l0.Links aC.2.2.2,own b1 26 (dP l0 aC),own Et 185 [vI x2.A,vI x2.lg],own Ew 185 [vI x2.B,vI x2.lu]]) sS rI ?_;clear hM;rintro aY nS hM gu hL1;dsimp only[afL] at hM ⊢;refine aG fun CX lZ=>?_;refine aO ?_;refine om ?_;refine oe cO ?_;refine on ?_;refine cc rfl hM (fun hc22 hM=>?_) (fun hc22 hM=>?_)
 ·refine aX (lZ _ _ ?_);clear lZ;refine aG fun Ej ng=>?_;refine bF ?_;refine aG fun CY l7=>?_;refine iD _ (List.Sublist.refl _) ?_;refine ay 0 rfl (aD 3) ?_;refine ay 1 rfl (aJ (b:=b1)) ?_;refine ay 2 rfl aH ?_;obtain⟨x23,hx24,hM⟩:=bind_some hM;refine ay 3 rfl (bI (xs:=l0.Links) 6 (kG l0.Links aC.2.2.2) (iS hx24)) ?_;refine ay 4 rfl (fO (m:=6) (i:=(nS:Int)) (xs:=l0.Links) (y:=x23) (l:=(wF x23)) 0 (kG l0.Links aC.2.2.2) (fun _=>hx24)) ?_;refine ay 5 rfl (bX (b:=Et)) ?_;obtain⟨y25,EP,hM⟩:=bind_some hM;refine eD 6 rfl (sV (fun hs=>aa6 _ _ x23 (qh.mk x2.A x2.lg) y25 EP (bC hs)) ⟨rI,?_⟩);refine ay 7 rfl aH ?_;refine gH 8 rfl rfl (aD 3) ?_;refine gH 9 rfl rfl (aJ (b:=b1)) ?_;refine gH 10 rfl rfl aH ?_;obtain⟨x27,hx28,hM⟩:=bind_some hM;refine gH 11 rfl rfl (bI (xs:=l0.Links) 6 (kG l0.Links aC.2.2.2) (fun hg=>let h:=nu (fu hx28 hg);⟨h.1,h.2.1⟩)) ?_;refine gH 12 rfl rfl (fO (m:=6) (i:=(nS:Int)) (xs:=l0.Links) (y:=x27) (l:=(wF x27)) 0 (kG l0.Links aC.2.2.2) (fun hg=>fu hx28 hg)) ?_
  refine gH 13 rfl rfl (bX (b:=Ew)) ?_;obtain⟨y29,PZ,hM⟩:=bind_some hM;refine Yb 14 rfl rfl (fun hg w hm=>let ⟨S,hs⟩:=hm;aa6 _ w x27 (qh.mk x2.B x2.lu) y29 (fu PZ hg) (bC hs)) ?_;refine ay 15 rfl dI ?_;refine dY (l7 _ _ ?_);clear l7;refine cc rfl hM (fun hc31 hM=>?_) (fun hc31 hM=>?_)
  · refine bD ?_;exact aW (bN hM)
  refine aX (ng _ _ ?_);clear ng;refine aZ ?_;refine om ?_;refine oP hM fun hM=>?_;refine oa ?_;refine bf (hL1 hM sS rI)
 refine dL (gX _ _ ?_);clear gX;dsimp only[afM] at hM;refine aG fun T9 yD=>?_;refine sr ?_;refine oe (bX (b:=b1)) ?_;refine om ?_;refine oe (bX (b:=Et)) ?_;obtain⟨XE,hy34,hM⟩:=bind_some hM;refine cv (fun hs=>afJ _ _ l0 aC i0 (qh.mk x2.A x2.lg) XE hy34 (bC hs) ⟨(kM hs),(kM hs),(kM hs),(kM hs)⟩) ?_;refine oe fF ?_;refine om ?_;refine av rfl (bX (b:=b1)) ?_;refine av rfl aH ?_;refine av rfl (bX (b:=Ew)) ?_;obtain⟨Ah,Lx,hM⟩:=bind_some hM;refine cg rfl (fun hg hs=>afJ _ _ l0 aC i0 (qh.mk x2.B x2.lu) Ah (fu Lx hg) (bC hs) ⟨(kM hs),(kM hs),(kM hs),(kM hs)⟩) ?_;refine av rfl fF ?_;refine oe eT ?_;refine on ?_;refine cc rfl hM (fun Py hM=>?_) (fun Py hM=>?_)
 ·refine bD ?_;exact aW (bN hM)
 refine aX (yD _ _ ?_);clear yD;refine bD ?_;exact aW (bN hM)
def afr:Unit→Option Int:=fun _=>
 some 0
def afn(l0:Layout)(Aq:Nat→Option Int):Nat→Option Int:=fun ET=>
 if decide ((ET:Int)<(l0.Links.length:Int)) then
  ((aa8 l0 (ET:Int)).bind fun XF=>
  if decide (XF≠0) then
   (some XF)
  else
   (bG (bW ((ET:Int)+1))<|
   Aq (ET+1)))
 else
  (afr ())
def afq(l0:Layout):Unit→Option Int:=fun _=>
 iter (afn l0) FUEL 0
def afm(l0:Layout)(dN:(List Str))(nO:Nat→Option Int):Nat→Option Int:=fun jg=>
 if decide ((jg:Int)<(l0.Sections.length:Int)) then
  ((Sc dN (jg:Int)).bind fun jV=>
  if decide (jV≠0) then
   (some jV)
  else
   ((idx l0.Sections (jg:Int)).bind fun x21=>
   (Bb x21.Length 1 400).bind fun y24=>
   (fV (!(!y24)) default (Bb x21.Limit 1000 100000)).bind fun qL=>
   (fV (!((!y24)||(!qL))) default (Bb x21.lJ (-40) 40)).bind fun y28=>
   bG (!(!(((!y24)||(!qL))||(!y28)))||bW ((l0.aM.length:Int)-1))<|
   (fV (!(((!y24)||(!qL))||(!y28))) default (Bb x21.pQ (-1) ((l0.aM.length:Int)-1))).bind fun y31=>
   if ((((!y24)||(!qL))||(!y28))||(!y31)) then
    (some 4)
   else
    (bG (bW ((jg:Int)+1))<|
    nO (jg+1))))
 else
  (afq l0 ())
def afp(l0:Layout):Unit→Option Int:=fun _=>
 (V8 l0).bind fun dN=>
 iter (afm l0 dN) FUEL 0
def afl(l0:Layout)(gN:Nat→Option Int):Nat→Option Int:=fun ES=>
 if decide ((ES:Int)<(l0.aV.length:Int)) then
  ((Sc l0.aV (ES:Int)).bind fun jC=>
  if decide (jC≠0) then
   (some jC)
  else
   (bG (bW ((ES:Int)+1))<|
   gN (ES+1)))
 else
  (afp l0 ())
def afo(l0:Layout):Unit→Option Int:=fun _=>
 iter (afl l0) FUEL 0
def afk(l0:Layout)(aY:Nat→Option Int):Nat→Option Int:=fun bM=>
 if decide ((bM:Int)<(l0.aM.length:Int)) then
  ((Sc l0.aM (bM:Int)).bind fun y5=>
  if decide (y5≠0) then
   (some y5)
  else
   (bG (bW ((bM:Int)+1))<|
   aY (bM+1)))
 else
  (afo l0 ())
def aaX(l0:Layout):Option Int:=
 if (((decide (24<(l0.aM.length:Int))||decide (48<(l0.aV.length:Int)))||decide (96<(l0.Sections.length:Int)))||decide (192<(l0.Links.length:Int))) then
  (some 7)
 else
  (if decide ((l0.Sections.length:Int)=0) then
   (some 1)
  else
   (iter (afk l0) FUEL 0))
theorem aob(S:bB)(w:World)(l0:Layout)(aC:ak.R Layout)(y:Int)(hM:aaX l0=some y)(hS:sB S w)(fG:ak.ok S w aC l0):
   Calls Tryz.prog 21 #[.agg (lC l0 aC)] w (cu w (vI y)):=by
 refine bP (args:=[_]) Tryz.func21 rfl ((pre_nil hS).start |>.lS fG) rfl ?_;unfold aaX at hM;refine sr ?_;refine oB (dP l0 aC) fun b1=>?_;refine aP ?_;refine aG fun K2 hK2=>?_;refine sr ?_;refine oe (aD 0) ?_;refine oe (aJ (b:=b1)) ?_;refine oe bJ ?_;refine oe iw ?_;refine om ?_;refine av rfl (aD 1) ?_;refine av rfl (aJ (b:=b1)) ?_;refine av rfl bJ ?_;refine av rfl iw ?_;refine oe eT ?_;refine om ?_;refine av rfl (aD 2) ?_;refine av rfl (aJ (b:=b1)) ?_;refine av rfl bJ ?_;refine av rfl iw ?_;refine oe eT ?_;refine om ?_;refine av rfl (aD 3) ?_;refine av rfl (aJ (b:=b1)) ?_;refine av rfl bJ ?_;refine av rfl iw ?_;refine oe eT ?_;refine on ?_
 refine cc rfl hM (fun hc2 hM=>?_) (fun hc2 hM=>?_)
 ·refine bD ?_;exact aW (bN hM)
 refine aX (hK2 _ _ ?_);clear hK2;refine aG fun K5 bS=>?_;refine sr ?_;refine oe (aD 2) ?_;refine oe (aJ (b:=b1)) ?_;refine oe bJ ?_;refine oe eu ?_;refine on ?_;refine cc rfl hM (fun hc3 hM=>?_) (fun hc3 hM=>?_)
 ·refine bD ?_;exact aW (bN hM)
 refine aX (bS _ _ ?_);clear bS;refine aG fun K8 eZ=>?_;refine bD ?_;refine bF ?_;refine lq hM (fun bM=>[(1,eP b1),(3,eI (bM:Int))]) (fun bM=>[iL l0.aM aC.1,iL l0.aV aC.2.1,iL l0.Sections aC.2.2.1,iL l0.Links aC.2.2.2,own b1 26 (dP l0 aC)]) sS rI ?_;clear hM;rintro aY bM hM gu hL1;dsimp only[afk] at hM ⊢;refine aG fun uN gX=>?_;refine aO ?_;refine oe (aD 0) ?_;refine oe (aJ (b:=b1)) ?_;refine oe bJ ?_;refine oe cO ?_;refine on ?_;refine cc rfl hM (fun hc4 hM=>?_) (fun hc4 hM=>?_)
 ·refine aX (gX _ _ ?_);clear gX;refine aG fun CX lZ=>?_;refine bF ?_;refine sr ?_;refine oe (aD 0) ?_;refine oe (aJ (b:=b1)) ?_;refine om ?_;obtain⟨y5,kU,hM⟩:=bind_some hM;refine cv (fun hs=>aa9 _ _ l0.aM aC.1 (bM:Int) y5 kU (bC hs) (kM hs)) ?_;refine aP ?_;refine aO ?_;refine oe iy ?_;refine on ?_;refine cc rfl hM (fun jR hM=>?_) (fun jR hM=>?_)
  · refine aO ?_;refine aP ?_;exact aW (bN hM)
  refine aX (lZ _ _ ?_);clear lZ;refine aZ ?_;refine om ?_;refine oP hM fun hM=>?_;refine oa ?_;refine bf (hL1 hM sS rI)
 refine dL (eZ _ _ ?_);clear eZ;dsimp only[afo] at hM;refine aG fun F6 oL=>?_;refine bD ?_;refine bF ?_;refine lq hM (fun ES=>[(1,eP b1),(5,eI (ES:Int))]) (fun ES=>[iL l0.aM aC.1,iL l0.aV aC.2.1,iL l0.Sections aC.2.2.1,iL l0.Links aC.2.2.2,own b1 26 (dP l0 aC)]) sS rI ?_;clear hM;rintro gN ES hM BD hL2;dsimp only[afl] at hM ⊢;refine aG fun F7 oM=>?_;refine aO ?_;refine oe (aD 1) ?_;refine oe (aJ (b:=b1)) ?_;refine oe bJ ?_;refine oe cO ?_;refine on ?_;refine cc rfl hM (fun uV hM=>?_) (fun uV hM=>?_)
 ·refine aX (oM _ _ ?_);clear oM;refine aG fun IW qx=>?_;refine bF ?_;refine sr ?_;refine oe (aD 1) ?_;refine oe (aJ (b:=b1)) ?_;refine om ?_;obtain⟨jC,xB,hM⟩:=bind_some hM;refine cv (fun hs=>aa9 _ _ l0.aV aC.2.1 (ES:Int) jC xB (bC hs) (kM hs)) ?_;refine aP ?_;refine aO ?_;refine oe iy ?_;refine on ?_;refine cc rfl hM (fun vX hM=>?_) (fun vX hM=>?_)
  · refine aO ?_;refine aP ?_;exact aW (bN hM)
  refine aX (qx _ _ ?_);clear qx;refine aZ ?_;refine om ?_;refine oP hM fun hM=>?_;refine oa ?_;refine bf (hL2 hM sS rI)
 refine dL (oL _ _ ?_);clear oL;dsimp only[afp] at hM;refine sr ?_;refine oe (bX (b:=b1)) ?_;obtain⟨dN,rJ,hM⟩:=bind_some hM;refine bn (eU jw.nil (fun S w hs hP=>afU _ w l0 aC dN rJ (bC hs) ⟨(kM hs),(kM hs),(kM hs),(kM hs)⟩) fK (fun r16=>?_));dsimp only[cA,nA];refine aP ?_;refine aG fun K25 Gu=>?_;refine bD ?_;refine bF ?_;refine lq hM (fun jg=>[(1,eP b1),(7,eS r16 dN),(8,eI (jg:Int))]) (fun jg=>[iL l0.aM aC.1,iL l0.aV aC.2.1,iL l0.Sections aC.2.2.1,iL l0.Links aC.2.2.2,own b1 26 (dP l0 aC),ah 9 r16 dN]) sS rI ?_;clear hM;rintro nO jg hM Oh hL3;dsimp only[afm] at hM ⊢;refine aG fun K27 Pk=>?_;refine aO ?_;refine oe (aD 2) ?_;refine oe (aJ (b:=b1)) ?_;refine oe bJ ?_
 refine oe cO ?_;refine on ?_;refine cc rfl hM (fun hc17 hM=>?_) (fun hc17 hM=>?_)
 ·refine aX (Pk _ _ ?_);clear Pk;refine aG fun XP BP=>?_;refine bF ?_;refine aG fun K30 Gw=>?_;refine aO ?_;refine om ?_;obtain⟨jV,xD,hM⟩:=bind_some hM;refine cv (fun hs=>aa9 _ _ dN r16 (jg:Int) jV xD (bC hs) (kT hs)) ?_;refine aP ?_;refine aO ?_;refine oe iy ?_;refine on ?_;refine cc rfl hM (fun Dr hM=>?_) (fun Dr hM=>?_)
  · refine aO ?_;refine aP ?_;exact aW (bN hM)
  refine aX (Gw _ _ ?_);clear Gw;refine sr ?_;refine oe (aD 2) ?_;refine oe (aJ (b:=b1)) ?_;refine om ?_;obtain⟨x21,adK,hM⟩:=bind_some hM;refine oe (bI (xs:=l0.Sections) 5 (kG l0.Sections aC.2.2.1) (iS adK)) ?_;refine oe (fO (m:=5) (i:=(jg:Int)) (xs:=l0.Sections) (y:=x21) (l:=(Co x21)) 0 (kG l0.Sections aC.2.2.1) (fun _=>adK)) ?_;refine oA rfl fun Oq=>?_;refine oS Oq (Co x21) ?_;refine on ?_;refine sr ?_;refine oe (aD 1) ?_;refine oe (aJ (b:=Oq)) ?_;obtain⟨y24,hy25,hM⟩:=bind_some hM;refine cv (fun hs=>DT _ _ x21.Length 1 400 y24 hy25 (bC hs)) ?_;refine oe fF ?_;refine om ?_;refine av rfl (aD 2) ?_;refine av rfl (aJ (b:=Oq)) ?_;obtain⟨qL,hy27,hM⟩:=bind_some hM;refine cg rfl (fun hg hs=>DT _ _ x21.Limit 1000 100000 qL (fu hy27 hg) (bC hs)) ?_;refine av rfl fF ?_;refine oe eT ?_
  refine om ?_;refine av rfl (aD 3) ?_;refine av rfl (aJ (b:=Oq)) ?_;obtain⟨y28,hy29,hM⟩:=bind_some hM;refine cg rfl (fun hg hs=>DT _ _ x21.lJ (-40) 40 y28 (fu hy29 hg) (bC hs)) ?_;refine av rfl fF ?_;refine oe eT ?_;refine om ?_;refine av rfl (aD 4) ?_;refine av rfl (aJ (b:=Oq)) ?_;refine av rfl (aD 0) ?_;refine av rfl (aJ (b:=b1)) ?_;refine av rfl bJ ?_;obtain⟨ajq,hM⟩:=dw hM;refine av rfl (xk (hr:=fun hg=>fH (Jl ajq hg))) ?_;obtain⟨y31,hy32,hM⟩:=bind_some hM;refine cg rfl (fun hg hs=>DT _ _ x21.pQ (-1) ((l0.aM.length:Int)-1) y31 (fu hy32 hg) (bC hs)) ?_;refine av rfl fF ?_;refine oe eT ?_;refine on ?_;refine cc rfl hM (fun Px hM=>?_) (fun Px hM=>?_)
  · refine bD ?_;exact aW (bN hM)
  refine aX (BP _ _ ?_);clear BP;refine aZ ?_;refine om ?_;refine oP hM fun hM=>?_;refine oa ?_;refine bf (hL3 hM sS rI)
 refine dL (Gu _ _ ?_);clear Gu;dsimp only[afq] at hM;refine aG fun K37 GD=>?_;refine bD ?_;refine bF ?_;refine lq hM (fun ET=>[(1,eP b1),(11,eI (ET:Int))]) (fun ET=>[iL l0.aM aC.1,iL l0.aV aC.2.1,iL l0.Sections aC.2.2.1,iL l0.Links aC.2.2.2,own b1 26 (dP l0 aC)]) sS rI ?_;clear hM;rintro Aq ET hM KL4 hL4;dsimp only[afn] at hM ⊢;refine aG fun K39 adk=>?_;refine aO ?_;refine oe (aD 3) ?_;refine oe (aJ (b:=b1)) ?_;refine oe bJ ?_;refine oe cO ?_;refine on ?_;refine cc rfl hM (fun aj9 hM=>?_) (fun aj9 hM=>?_)
 ·refine aX (adk _ _ ?_);clear adk;refine aG fun K41 Pn=>?_;refine bF ?_;refine sr ?_;refine oe (bX (b:=b1)) ?_;refine om ?_;obtain⟨XF,ak8,hM⟩:=bind_some hM;refine cv (fun hs=>aoi _ _ l0 aC (ET:Int) XF ak8 (bC hs) ⟨(kM hs),(kM hs),(kM hs),(kM hs)⟩) ?_;refine aP ?_;refine aO ?_;refine oe iy ?_;refine on ?_;refine cc rfl hM (fun hc38 hM=>?_) (fun hc38 hM=>?_)
  · refine aO ?_;refine aP ?_;exact aW (bN hM)
  refine aX (Pn _ _ ?_);clear Pn;refine aZ ?_;refine om ?_;refine oP hM fun hM=>?_;refine oa ?_;refine bf (hL4 hM sS rI)
 refine dL (GD _ _ ?_);clear GD;dsimp only[afr] at hM;refine bD ?_;exact aW (bN hM)
end Go.Proofs.YtcalibhfgdncaaaGreatDoor

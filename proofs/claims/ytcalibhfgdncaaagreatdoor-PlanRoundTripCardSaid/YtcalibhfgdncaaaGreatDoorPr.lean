/- Models of functions, and that the code computes them. -/
import Derived.Test.YtcalibhfgdncaaaGreatDoorTypes
set_option linter.all false
namespace Go.Proofs.YtcalibhfgdncaaaGreatDoor
open Go.Dc Go.RowKit
set_option maxRecDepth 10000
def RF(p0:Int):Option Bool:=
 some (decide (0≤p0)&&decide (p0≤1048576))
theorem ae9(S:bB)(w:World)(p0:Int)(y:Bool)(hM:RF p0=some y)(hS:sB S w):
  Calls Tryz.prog 85 #[vI p0] w (cu w (.bool y)):=by
 refine bP (args:=[_]) Tryz.func85 rfl ((pre_nil hS).start) rfl ?_;unfold RF at hM;refine bD ?_;refine aO ?_;refine oe jf ?_;refine om ?_;refine av rfl aH ?_;refine av rfl pU ?_;refine oe dI ?_;refine aP ?_;exact aW (bN hM)
def JV(p0:Plan)(su:Int)(hi0:Int):Option Bool:=
 bG (!((decide (0≤su)&&decide (su≤hi0))&&decide (hi0≤7200))||bW (su+p0.bR))<|
 some (((decide (0≤su)&&decide (su≤hi0))&&decide (hi0≤7200))&&decide (hi0<(su+p0.bR)))
theorem aaA(S:bB)(w:World)(p0:Plan)(au:ak.R Plan)(su:Int)(hi0:Int)(y:Bool)(hM:JV p0 su hi0=some y)(hS:sB S w)(gI:ak.ok S w au p0):
  Calls Tryz.prog 88 #[.agg (mY p0 au),vI su,vI hi0] w (cu w (.bool y)):=by
 refine bP (args:=[_,_,_]) Tryz.func88 rfl ((pre_nil hS).start |>.oC gI) rfl ?_;unfold JV at hM;refine sr ?_;refine oB (gZ p0 au) fun b1=>?_;refine aP ?_;refine aO ?_;refine oe pU ?_;refine om ?_;refine av rfl aH ?_;refine av rfl aH ?_;refine av rfl pU ?_;refine oe dI ?_;refine om ?_;refine av rfl aH ?_;refine av rfl pU ?_
 refine oe dI ?_;refine om ?_;refine av rfl aH ?_;refine av rfl aH ?_;refine av rfl (aD 0) ?_;refine av rfl (aJ (b:=b1)) ?_;obtain⟨hI2,hM⟩:=dw hM;refine av rfl (dH (hr:=fun hg=>fH (Jl hI2 hg))) ?_;refine av rfl cO ?_;refine oe dI ?_;refine aP ?_;exact aW (bN hM)
def JX(p0:Plan)(i0:Int):Option Bool:=
 some (decide (0≤i0)&&decide (i0<(p0.Lines.length:Int)))
theorem aaF(S:bB)(w:World)(p0:Plan)(au:ak.R Plan)(i0:Int)(y:Bool)(hM:JX p0 i0=some y)(hS:sB S w)(gI:ak.ok S w au p0):
  Calls Tryz.prog 91 #[.agg (mY p0 au),vI i0] w (cu w (.bool y)):=by
 refine bP (args:=[_,_]) Tryz.func91 rfl ((pre_nil hS).start |>.oC gI) rfl ?_;unfold JX at hM;refine sr ?_;refine oB (gZ p0 au) fun b1=>?_;refine aP ?_;refine aO ?_;refine oe jf ?_;refine om ?_;refine av rfl aH ?_;refine av rfl (aD 3) ?_;refine av rfl (aJ (b:=b1)) ?_;refine av rfl bJ ?_;refine av rfl cO ?_;refine oe dI ?_
 refine aP ?_;exact aW (bN hM)
def G8(p0:Plan)(i0:Int)(k0:Int):Option Bool:=
 (JX p0 i0).bind fun y2=>
 (fV (y2&&decide (0≤k0)) default (idx p0.Lines i0)).bind fun x4=>
 if (y2&&decide (0≤k0)) then
 (some ((y2&&decide (0≤k0))&&decide (k0<(x4.bL.length:Int))))
 else
 (some false)
theorem Vz(S:bB)(w:World)(p0:Plan)(au:ak.R Plan)(i0:Int)(k0:Int)(y:Bool)(hM:G8 p0 i0 k0=some y)(hS:sB S w)(gI:ak.ok S w au p0):
   Calls Tryz.prog 87 #[.agg (mY p0 au),vI i0,vI k0] w (cu w (.bool y)):=by
 refine bP (args:=[_,_,_]) Tryz.func87 rfl ((pre_nil hS).start |>.oC gI) rfl ?_;unfold G8 at hM;refine sr ?_;refine oB (gZ p0 au) fun b1=>?_;refine aP ?_;refine sr ?_;refine oe (bX (b:=b1)) ?_;refine om ?_;obtain⟨y2,hy3,hM⟩:=bind_some hM;refine cv (fun hs=>aaF _ _ p0 au i0 y2 hy3 (bC hs) ⟨(kM hs),(kM hs),(kM hs),(kM hs),(kM hs),(kM hs),(kM hs)⟩) ?_
 refine om ?_;refine av rfl aH ?_;refine av rfl jf ?_;refine oe dI ?_;refine om ?_;refine av rfl aH ?_;refine av rfl (aD 3) ?_;refine av rfl (aJ (b:=b1)) ?_;refine av rfl aH ?_;obtain⟨x4,hx5,hM⟩:=bind_some hM;refine av rfl (bI (xs:=p0.Lines) 4 (kG p0.Lines au.2.2.1) (fun hg=>let h:=nu (fu hx5 hg);⟨h.1,h.2.1⟩)) ?_;refine av rfl (aD 3) ?_;refine am7 (y2&&decide (0≤k0)) (fun uW=>?_) (fun uW=>?_)
 ·replace hM:=iT uW hM;have hx7:=fu hx5 uW;refine ME 15 uW rfl ?_;refine ME 16 uW rfl ?_;refine ME 17 uW rfl ?_;refine ME 18 uW rfl ?_;refine ME 19 uW rfl ?_;refine ME 20 uW rfl ?_;refine Vm rfl uW ?_;refine oe (dh (i:=i0) (xs:=p0.Lines) (y:=x4) 3 (kG p0.Lines au.2.2.1) (fun _=>hx7)) ?_;refine Vm rfl uW ?_;refine oe bJ ?_;refine Vm rfl uW ?_;refine oe cO ?_;refine oe dI ?_;refine aP ?_;exact aW (bN hM)
 replace hM:=iF uW hM;refine Vl rfl uW ?_;refine Vl rfl uW ?_;refine Vl rfl uW ?_;refine oe (acZ uW) ?_;refine aP ?_;exact aW (bN hM)
def J3(p0:Plan)(r0:dD):Option Int:=
 (idx p0.Routes r0.aQ).bind fun x3=>
 (idx x3.Steps 0).bind fun x5=>
 some x5.Section
theorem aaJ(S:bB)(w:World)(p0:Plan)(au:ak.R Plan)(r0:dD)(y:Int)(hM:J3 p0 r0=some y)(hS:sB S w)(gI:ak.ok S w au p0):
  Calls Tryz.prog 90 #[.agg (mY p0 au),.agg (ab4 r0)] w (cu w (vI y)):=by
 refine bP (args:=[_,_]) Tryz.func90 rfl ((pre_nil hS).start |>.oC gI) rfl ?_;unfold J3 at hM;refine sr ?_;refine oB (gZ p0 au) fun b1=>?_;refine oB (wG r0) fun b2=>?_;refine aP ?_;refine sr ?_;refine oe (aD 2) ?_;refine oe (aJ (b:=b1)) ?_;refine oe (aD 0) ?_;refine oe (aJ (b:=b2)) ?_
 obtain⟨x3,hx4,hM⟩:=bind_some hM;refine oe (bI (xs:=p0.Routes) 2 (kG p0.Routes au.2.1) (iS hx4)) ?_;refine oe (aD 0) ?_;refine oe (dh (i:=r0.aQ) (xs:=p0.Routes) (y:=x3) 0 (kG p0.Routes au.2.1) (fun _=>hx4)) ?_;obtain⟨x5,hx6,hM⟩:=bind_some hM;refine oe (bI (xs:=x3.Steps) 2 ((Sk.elem (Sk.dW (α:=List aQ) (r:=au.2.1) (x:=p0.Routes) hA) hx4)).kn (iS hx6)) ?_;refine oe (aD 0) ?_;refine oe (dh (i:=0) (xs:=x3.Steps) (y:=x5) 0 ((Sk.elem (Sk.dW (α:=List aQ) (r:=au.2.1) (x:=p0.Routes) hA) hx4)).kn (fun _=>hx6)) ?_;refine aP ?_;exact aW (bN hM)
def J4(p0:Plan)(r0:dD):Option Int:=
 (idx p0.Routes r0.aQ).bind fun x3=>
 (idx p0.Routes r0.aQ).bind fun x5=>
 bG (bW ((x3.Steps.length:Int)-x5.Overlap))<|
 bG (bW (((x3.Steps.length:Int)-x5.Overlap)-1))<|
 (idx x3.Steps (((x3.Steps.length:Int)-x5.Overlap)-1)).bind fun x9=>
 some x9.Section
theorem aaK(S:bB)(w:World)(p0:Plan)(au:ak.R Plan)(r0:dD)(y:Int)(hM:J4 p0 r0=some y)(hS:sB S w)(gI:ak.ok S w au p0):
  Calls Tryz.prog 89 #[.agg (mY p0 au),.agg (ab4 r0)] w (cu w (vI y)):=by
 refine bP (args:=[_,_]) Tryz.func89 rfl ((pre_nil hS).start |>.oC gI) rfl ?_;unfold J4 at hM;refine sr ?_;refine oB (gZ p0 au) fun b1=>?_;refine oB (wG r0) fun b2=>?_;refine aP ?_;refine aG fun K2 hK2=>?_;refine iD _ (List.Sublist.refl _) ?_;refine ay 0 rfl (aD 2) ?_;refine ay 1 rfl (aJ (b:=b1)) ?_;refine ay 2 rfl (aD 0) ?_
 refine ay 3 rfl (aJ (b:=b2)) ?_;obtain⟨x3,hx4,hM⟩:=bind_some hM;refine ay 4 rfl (bI (xs:=p0.Routes) 2 (kG p0.Routes au.2.1) (iS hx4)) ?_;refine ay 5 rfl (aD 0) ?_;refine ay 6 rfl (dh (i:=r0.aQ) (xs:=p0.Routes) (y:=x3) 0 (kG p0.Routes au.2.1) (fun _=>hx4)) ?_;refine ay 7 rfl (aD 2) ?_;refine ay 8 rfl (aJ (b:=b1)) ?_;refine ay 9 rfl (aD 0) ?_;refine ay 10 rfl (aJ (b:=b2)) ?_;obtain⟨x5,hx6,hM⟩:=bind_some hM;refine ay 11 rfl (bI (xs:=p0.Routes) 2 (kG p0.Routes au.2.1) (iS hx6)) ?_;refine ay 12 rfl (aD 1) ?_;refine ay 13 rfl (dh (i:=r0.aQ) (xs:=p0.Routes) (y:=x5) 1 (kG p0.Routes au.2.1) (fun _=>hx6)) ?_;refine ay 14 rfl dx ?_;refine ay 15 rfl dx ?_;refine dY (hK2 _ _ ?_);clear hK2;refine aO ?_;refine om ?_;refine oe bJ ?_;refine om ?_;refine oN hM fun hM=>?_;refine oN hM fun hM=>?_;obtain⟨x9,ni,hM⟩:=bind_some hM;refine oe (bI (xs:=x3.Steps) 2 ((Sk.elem (Sk.dW (α:=List aQ) (r:=au.2.1) (x:=p0.Routes) hA) hx4)).kn (iS ni)) ?_
 refine oe (aD 0) ?_;refine oe (dh (i:=(((x3.Steps.length:Int)-x5.Overlap)-1)) (xs:=x3.Steps) (y:=x9) 0 ((Sk.elem (Sk.dW (α:=List aQ) (r:=au.2.1) (x:=p0.Routes) hA) hx4)).kn (fun _=>ni)) ?_;refine aP ?_;exact aW (bN hM)
def aaD(t0:bA)(p0:bA):Option Bool:=
 some (decide (t0.Name=p0.Name))
theorem anG(S:bB)(w:World)(t0:bA)(dK:Nat)(p0:bA)(y:Bool)(hM:aaD t0 p0=some y)(hS:sB S w)(BQ:S dK∧w.heap[dK]?=some (.cells (sF p0).toArray 71 (0,0))):
  Calls Tryz.prog 80 #[.agg (IZ t0),vP dK] w (cu w (.bool y)):=by
 refine bP (args:=[_,_]) Tryz.func80 rfl ((pre_nil hS).start |>.mW BQ) rfl ?_;unfold aaD at hM;refine sr ?_;refine oB (sF t0) fun b1=>?_;refine aP ?_;refine sr ?_;refine oe (aD 0) ?_;refine oe (aJ (b:=b1)) ?_;refine oe (aD 0) ?_;refine oe (rY (b:=dK)) ?_;refine oe mF ?_;refine aP ?_;exact aW (bN hM)
def aaB(k0:Line)(p0:Line):Option Bool:=
 some (decide (k0.Name=p0.Name))
theorem anB(S:bB)(w:World)(k0:Line)(Fv:ak.R Line)(dK:Nat)(p0:Line)(au:ak.R Line)(y:Bool)(hM:aaB k0 p0=some y)(hS:sB S w)(YQ:ak.ok S w Fv k0)(BQ:S dK∧w.heap[dK]?=some (.cells (mV p0 au).toArray 56 (0,0)))(gI:ak.ok S w au p0):
  Calls Tryz.prog 84 #[.agg (IY k0 Fv),vP dK] w (cu w (.bool y)):=by
 refine bP (args:=[_,_]) Tryz.func84 rfl ((pre_nil hS).start |>.bU (α:=List dD) (r:=Fv) (x:=k0.bL) YQ|>.mW BQ|>.bU (α:=List dD) (r:=au) (x:=p0.bL) gI) rfl ?_;unfold aaB at hM;refine sr ?_;refine oB (mV k0 Fv) fun b1=>?_;refine aP ?_;refine sr ?_;refine oe (aD 0) ?_;refine oe (aJ (b:=b1)) ?_;refine oe (aD 0) ?_;refine oe (rY (b:=dK)) ?_;refine oe mF ?_;refine aP ?_;exact aW (bN hM)
def aaE(u0:Turn)(p0:Turn):Option Bool:=
 some (decide (u0.From=p0.From)||decide (u0.To=p0.To))
theorem anJ(S:bB)(w:World)(u0:Turn)(dK:Nat)(p0:Turn)(y:Bool)(hM:aaE u0 p0=some y)(hS:sB S w)(BQ:S dK∧w.heap[dK]?=some (.cells (yL p0).toArray 94 (0,0))):
  Calls Tryz.prog 93 #[.agg (ab5 u0),vP dK] w (cu w (.bool y)):=by
 refine bP (args:=[_,_]) Tryz.func93 rfl ((pre_nil hS).start |>.mW BQ) rfl ?_;unfold aaE at hM;refine sr ?_;refine oB (yL u0) fun b1=>?_;refine aP ?_;refine sr ?_;refine oe (aD 0) ?_;refine oe (aJ (b:=b1)) ?_;refine oe (aD 0) ?_;refine oe (rY (b:=dK)) ?_;refine oe eu ?_;refine om ?_;refine av rfl (aD 1) ?_;refine av rfl (aJ (b:=b1)) ?_;refine av rfl (aD 1) ?_;refine av rfl (rY (b:=dK)) ?_;refine av rfl eu ?_;refine oe eT ?_;refine aP ?_;exact aW (bN hM)
def agx:Unit→Option Int:=fun _=>
 some (-1)
def WB(s0:List bA)(cZ:bA)(aY:Nat→Option Int):Nat→Option Int:=fun eY=>
 if decide ((eY:Int)<(s0.length:Int)) then
  ((idx s0 (eY:Int)).bind fun x3=>
  (aaD x3 cZ).bind fun y5=>
  if y5 then
   (some (eY:Int))
  else
   (aY (eY+1)))
 else
  (agx ())
def WC(s0:List bA)(cZ:bA):Option Int:=
 iter (WB s0 cZ) FUEL 0
theorem apo(S:bB)(w:World)(s0:List bA)(bK:ak.R (List bA))(gB:Nat)(cZ:bA)(y:Int)(hM:WC s0 cZ=some y)(hS:sB S w)(sU:ak.ok S w bK s0)(uU:S gB∧w.heap[gB]?=some (.cells (sF cZ).toArray 71 (0,0))):
   Calls Tryz.prog 136 #[sL bK s0,.func (.func 80) #[] #[vP gB]] w (cu w (vI y)):=by
 refine bP (args:=[_,_]) Tryz.func136 rfl ((pre_nil hS).start |>.bU (α:=List bA) (r:=bK) (x:=s0) sU|>.mW uU) rfl ?_;unfold WC at hM;refine bD ?_;refine aG fun K2 hK2=>?_;refine aO ?_;refine iO (fun w hm=>Kn.len (kG s0 bK) hm) fun hl1=>?_;refine oe bJ ?_;refine om ?_;refine on ?_;refine bF ?_;refine lq hM (fun eY=>[(0,eS bK s0),(1,.v (.func (.func 80) #[] #[vP gB])),(7,eI (s0.length:Int)),(8,eI (eY:Int))]) (fun eY=>[iL s0 bK,jh gB 71 (sF cZ)]) sS rI ?_;clear hM;rintro aY eY hM gu hL1;dsimp only[WB] at hM ⊢;refine sr ?_;refine oe cO ?_;refine on ?_;refine aG fun K5 bS=>?_;refine cc rfl hM (fun hc2 hM=>?_) (fun hc2 hM=>?_)
 ·have GH:=of_decide_eq_true hc2;refine aX (bS _ _ ?_);clear bS;refine aG fun K6 bZ=>?_;refine bF ?_;refine aO ?_;refine aP ?_;refine aO ?_;refine om ?_;refine om ?_;obtain⟨x3,hx4,hM⟩:=bind_some hM;refine oe (bI (xs:=s0) 5 (kG s0 bK) (iS hx4)) ?_;refine oe (fO (m:=5) (i:=(eY:Int)) (xs:=s0) (y:=x3) (l:=(sF x3)) 0 (kG s0 bK) (fun _=>hx4)) ?_;obtain⟨y5,kU,hM⟩:=bind_some hM;refine bn (Ky (vs:=[.agg (IZ x3)]) (cap:=[vP gB]) (fun w hm=>let ⟨S,hs⟩:=hm;anG _ w x3 gB cZ y5 kU (bC hs) (tF hA hs)) ?_);refine on ?_;refine cc rfl hM (fun jR hM=>?_) (fun jR hM=>?_)
  · refine aO ?_;refine aP ?_;exact aW (bN hM)
  refine aX (bZ _ _ ?_);clear bZ;refine aZ ?_;refine oe (dH (hr:=fun _=>by unfold d9;omega)) ?_;refine om ?_;refine bf (hL1 hM sS rI)
 refine dL (hK2 _ _ ?_);clear hK2;dsimp only[agx] at hM;refine bD ?_;exact aW (bN hM)
def S9(s0:List bA)(cZ:bA):Option Bool:=
 (WC s0 cZ).bind fun y1=>
 some (decide (0≤y1))
theorem aph(S:bB)(w:World)(s0:List bA)(bK:ak.R (List bA))(gB:Nat)(cZ:bA)(y:Bool)(hM:S9 s0 cZ=some y)(hS:sB S w)(sU:ak.ok S w bK s0)(uU:S gB∧w.heap[gB]?=some (.cells (sF cZ).toArray 71 (0,0))):
  Calls Tryz.prog 79 #[sL bK s0,.func (.func 80) #[] #[vP gB]] w (cu w (.bool y)):=by
 refine bP (args:=[_,_]) Tryz.func79 rfl ((pre_nil hS).start |>.bU (α:=List bA) (r:=bK) (x:=s0) sU|>.mW uU) rfl ?_;unfold S9 at hM;refine bD ?_;refine aO ?_;refine om ?_;obtain⟨y1,hy2,hM⟩:=bind_some hM;refine cv (fun hs=>apo _ _ s0 bK gB cZ y1 hy2 (bC hs) (kM hs) (tF hA hs)) ?_;refine oe jf ?_;refine aP ?_;exact aW (bN hM)
def agu:Unit→Option Int:=fun _=>
 some (-1)
def Wv(s0:List Line)(cZ:Line)(aY:Nat→Option Int):Nat→Option Int:=fun eY=>
 if decide ((eY:Int)<(s0.length:Int)) then
  ((idx s0 (eY:Int)).bind fun x3=>
  (aaB x3 cZ).bind fun y5=>
  if y5 then
   (some (eY:Int))
  else
   (aY (eY+1)))
 else
  (agu ())
def Ww(s0:List Line)(cZ:Line):Option Int:=
 iter (Wv s0 cZ) FUEL 0
theorem apl(S:bB)(w:World)(s0:List Line)(bK:ak.R (List Line))(gB:Nat)(cZ:Line)(fU:ak.R Line)(y:Int)(hM:Ww s0 cZ=some y)(hS:sB S w)(sU:ak.ok S w bK s0)(uU:S gB∧w.heap[gB]?=some (.cells (mV cZ fU).toArray 56 (0,0)))(xw:ak.ok S w fU cZ):
   Calls Tryz.prog 138 #[sL bK s0,.func (.func 84) #[] #[vP gB]] w (cu w (vI y)):=by
 refine bP (args:=[_,_]) Tryz.func138 rfl ((pre_nil hS).start |>.bU (α:=List Line) (r:=bK) (x:=s0) sU|>.mW uU|>.bU (α:=List dD) (r:=fU) (x:=cZ.bL) xw) rfl ?_;unfold Ww at hM;refine bD ?_;refine aG fun K2 hK2=>?_;refine aO ?_;refine iO (fun w hm=>Kn.len (kG s0 bK) hm) fun hl1=>?_;refine oe bJ ?_;refine om ?_;refine on ?_;refine bF ?_;refine lq hM (fun eY=>[(0,eS bK s0),(1,.v (.func (.func 84) #[] #[vP gB])),(7,eI (s0.length:Int)),(8,eI (eY:Int))]) (fun eY=>[iL s0 bK,iL cZ.bL fU,jh gB 56 (mV cZ fU)]) sS rI ?_;clear hM;rintro aY eY hM gu hL1;dsimp only[Wv] at hM ⊢;refine sr ?_;refine oe cO ?_;refine on ?_;refine aG fun K5 bS=>?_;refine cc rfl hM (fun hc2 hM=>?_) (fun hc2 hM=>?_)
 ·have GH:=of_decide_eq_true hc2;refine aX (bS _ _ ?_);clear bS;refine aG fun K6 bZ=>?_;refine bF ?_;refine aO ?_;refine aP ?_;refine aO ?_;refine om ?_;refine om ?_;obtain⟨x3,hx4,hM⟩:=bind_some hM;refine oe (bI (xs:=s0) 4 (kG s0 bK) (iS hx4)) ?_;refine oe (fO (m:=4) (i:=(eY:Int)) (xs:=s0) (y:=x3) (l:=(mV x3 (bK.es (eY:Int).toNat))) 0 (kG s0 bK) (fun _=>hx4)) ?_;obtain⟨y5,kU,hM⟩:=bind_some hM;refine bn (Ky (vs:=[.agg (IY x3 (bK.es (eY:Int).toNat))]) (cap:=[vP gB]) (fun w hm=>let ⟨S,hs⟩:=hm;anB _ w x3 (bK.es (eY:Int).toNat) gB cZ fU y5 kU (bC hs) (Kn.lend ((Sk.elem (Sk.dW (α:=List Line) (r:=bK) (x:=s0) hA) hx4)).kn hs) (tF hA hs) (kM hs)) ?_);refine on ?_;refine cc rfl hM (fun jR hM=>?_) (fun jR hM=>?_)
  · refine aO ?_;refine aP ?_;exact aW (bN hM)
  refine aX (bZ _ _ ?_);clear bZ;refine aZ ?_;refine oe (dH (hr:=fun _=>by unfold d9;omega)) ?_;refine om ?_;refine bf (hL1 hM sS rI)
 refine dL (hK2 _ _ ?_);clear hK2;dsimp only[agu] at hM;refine bD ?_;exact aW (bN hM)
def SY(s0:List Line)(cZ:Line):Option Bool:=
 (Ww s0 cZ).bind fun y1=>
 some (decide (0≤y1))
theorem apg(S:bB)(w:World)(s0:List Line)(bK:ak.R (List Line))(gB:Nat)(cZ:Line)(fU:ak.R Line)(y:Bool)(hM:SY s0 cZ=some y)(hS:sB S w)(sU:ak.ok S w bK s0)(uU:S gB∧w.heap[gB]?=some (.cells (mV cZ fU).toArray 56 (0,0)))(xw:ak.ok S w fU cZ):
  Calls Tryz.prog 83 #[sL bK s0,.func (.func 84) #[] #[vP gB]] w (cu w (.bool y)):=by
 refine bP (args:=[_,_]) Tryz.func83 rfl ((pre_nil hS).start |>.bU (α:=List Line) (r:=bK) (x:=s0) sU|>.mW uU|>.bU (α:=List dD) (r:=fU) (x:=cZ.bL) xw) rfl ?_;unfold SY at hM;refine bD ?_;refine aO ?_;refine om ?_;obtain⟨y1,hy2,hM⟩:=bind_some hM;refine cv (fun hs=>apl _ _ s0 bK gB cZ fU y1 hy2 (bC hs) (kM hs) (tF hA hs) (kM hs)) ?_;refine oe jf ?_;refine aP ?_;exact aW (bN hM)
def agz:Unit→Option Int:=fun _=>
 some (-1)
def WH(s0:List Turn)(cZ:Turn)(aY:Nat→Option Int):Nat→Option Int:=fun eY=>
 if decide ((eY:Int)<(s0.length:Int)) then
  ((idx s0 (eY:Int)).bind fun x3=>
  (aaE x3 cZ).bind fun y5=>
  if y5 then
   (some (eY:Int))
  else
   (aY (eY+1)))
 else
  (agz ())
def WI(s0:List Turn)(cZ:Turn):Option Int:=
 iter (WH s0 cZ) FUEL 0
theorem apq(S:bB)(w:World)(s0:List Turn)(bK:ak.R (List Turn))(gB:Nat)(cZ:Turn)(y:Int)(hM:WI s0 cZ=some y)(hS:sB S w)(sU:ak.ok S w bK s0)(uU:S gB∧w.heap[gB]?=some (.cells (yL cZ).toArray 94 (0,0))):
   Calls Tryz.prog 140 #[sL bK s0,.func (.func 93) #[] #[vP gB]] w (cu w (vI y)):=by
 refine bP (args:=[_,_]) Tryz.func140 rfl ((pre_nil hS).start |>.bU (α:=List Turn) (r:=bK) (x:=s0) sU|>.mW uU) rfl ?_;unfold WI at hM;refine bD ?_;refine aG fun K2 hK2=>?_;refine aO ?_;refine iO (fun w hm=>Kn.len (kG s0 bK) hm) fun hl1=>?_;refine oe bJ ?_;refine om ?_;refine on ?_;refine bF ?_;refine lq hM (fun eY=>[(0,eS bK s0),(1,.v (.func (.func 93) #[] #[vP gB])),(7,eI (s0.length:Int)),(8,eI (eY:Int))]) (fun eY=>[iL s0 bK,jh gB 94 (yL cZ)]) sS rI ?_;clear hM;rintro aY eY hM gu hL1;dsimp only[WH] at hM ⊢;refine sr ?_;refine oe cO ?_;refine on ?_;refine aG fun K5 bS=>?_;refine cc rfl hM (fun hc2 hM=>?_) (fun hc2 hM=>?_)
 ·have GH:=of_decide_eq_true hc2;refine aX (bS _ _ ?_);clear bS;refine aG fun K6 bZ=>?_;refine bF ?_;refine aO ?_;refine aP ?_;refine aO ?_;refine om ?_;refine om ?_;obtain⟨x3,hx4,hM⟩:=bind_some hM;refine oe (bI (xs:=s0) 4 (kG s0 bK) (iS hx4)) ?_;refine oe (fO (m:=4) (i:=(eY:Int)) (xs:=s0) (y:=x3) (l:=(yL x3)) 0 (kG s0 bK) (fun _=>hx4)) ?_;obtain⟨y5,kU,hM⟩:=bind_some hM;refine bn (Ky (vs:=[.agg (ab5 x3)]) (cap:=[vP gB]) (fun w hm=>let ⟨S,hs⟩:=hm;anJ _ w x3 gB cZ y5 kU (bC hs) (tF hA hs)) ?_);refine on ?_;refine cc rfl hM (fun jR hM=>?_) (fun jR hM=>?_)
  · refine aO ?_;refine aP ?_;exact aW (bN hM)
  refine aX (bZ _ _ ?_);clear bZ;refine aZ ?_;refine oe (dH (hr:=fun _=>by unfold d9;omega)) ?_;refine om ?_;refine bf (hL1 hM sS rI)
 refine dL (hK2 _ _ ?_);clear hK2;dsimp only[agz] at hM;refine bD ?_;exact aW (bN hM)
def Ta(s0:List Turn)(cZ:Turn):Option Bool:=
 (WI s0 cZ).bind fun y1=>
 some (decide (0≤y1))
theorem apj(S:bB)(w:World)(s0:List Turn)(bK:ak.R (List Turn))(gB:Nat)(cZ:Turn)(y:Bool)(hM:Ta s0 cZ=some y)(hS:sB S w)(sU:ak.ok S w bK s0)(uU:S gB∧w.heap[gB]?=some (.cells (yL cZ).toArray 94 (0,0))):
  Calls Tryz.prog 92 #[sL bK s0,.func (.func 93) #[] #[vP gB]] w (cu w (.bool y)):=by
 refine bP (args:=[_,_]) Tryz.func92 rfl ((pre_nil hS).start |>.bU (α:=List Turn) (r:=bK) (x:=s0) sU|>.mW uU) rfl ?_;unfold Ta at hM;refine bD ?_;refine aO ?_;refine om ?_;obtain⟨y1,hy2,hM⟩:=bind_some hM;refine cv (fun hs=>apq _ _ s0 bK gB cZ y1 hy2 (bC hs) (kM hs) (tF hA hs)) ?_;refine oe jf ?_;refine aP ?_;exact aW (bN hM)
end Go.Proofs.YtcalibhfgdncaaaGreatDoor

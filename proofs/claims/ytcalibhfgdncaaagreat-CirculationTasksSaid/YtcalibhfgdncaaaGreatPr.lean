/- Models of functions, and that the code computes them. -/
import Derived.Test.YtcalibhfgdncaaaGreatTypes
set_option linter.all false
namespace Go.Proofs.YtcalibhfgdncaaaGreat
open Go.Dc Go.RowKit
set_option maxRecDepth 10000
def QK(p0:Int):Option Bool:=
 some (decide (0≤p0)&&decide (p0≤1048576))
theorem afk(S:bF)(w:World)(p0:Int)(y:Bool)(hM:QK p0=some y)(hS:sB S w):
  Calls Tryz.prog 72 #[vI p0] w (dw w (.bool y)):=by
 refine bW (args:=[_]) Tryz.func72 rfl ((pre_nil hS).start) rfl ?_;unfold QK at hM;refine bg ?_;refine aJ ?_;refine oe ig ?_;refine om ?_;refine au rfl aH ?_;refine au rfl kD ?_;refine oe dB ?_;refine aL ?_;exact aP (bD hM)
def JL(p0:Plan)(nS:Int)(hi0:Int):Option Bool:=
 aX (!((decide (0≤nS)&&decide (nS≤hi0))&&decide (hi0≤7200))||bA (nS+p0.eX))<|
 some (((decide (0≤nS)&&decide (nS≤hi0))&&decide (hi0≤7200))&&decide (hi0<(nS+p0.eX)))
theorem aan(S:bF)(w:World)(p0:Plan)(av:ak.R Plan)(nS:Int)(hi0:Int)(y:Bool)(hM:JL p0 nS hi0=some y)(hS:sB S w)(gB:ak.ok S w av p0):
  Calls Tryz.prog 75 #[.agg (mO p0 av),vI nS,vI hi0] w (dw w (.bool y)):=by
 refine bW (args:=[_,_,_]) Tryz.func75 rfl ((pre_nil hS).start |>.oL gB) rfl ?_;unfold JL at hM;refine sr ?_;refine oB (fZ p0 av) fun b1=>?_;refine aL ?_;refine aJ ?_;refine oe kD ?_;refine om ?_;refine au rfl aH ?_;refine au rfl aH ?_;refine au rfl kD ?_;refine oe dB ?_;refine om ?_;refine au rfl aH ?_;refine au rfl kD ?_
 refine oe dB ?_;refine om ?_;refine au rfl aH ?_;refine au rfl aH ?_;refine au rfl (ay 0) ?_;refine au rfl (aD (b:=b1)) ?_;obtain⟨hI2,hM⟩:=bQ hM;refine au rfl (dh (hr:=fun hg=>dI (tL hI2 hg))) ?_;refine au rfl bK ?_;refine oe dB ?_;refine aL ?_;exact aP (bD hM)
def JN(p0:Plan)(i0:Int):Option Bool:=
 some (decide (0≤i0)&&decide (i0<(p0.Lines.length:Int)))
theorem aas(S:bF)(w:World)(p0:Plan)(av:ak.R Plan)(i0:Int)(y:Bool)(hM:JN p0 i0=some y)(hS:sB S w)(gB:ak.ok S w av p0):
  Calls Tryz.prog 78 #[.agg (mO p0 av),vI i0] w (dw w (.bool y)):=by
 refine bW (args:=[_,_]) Tryz.func78 rfl ((pre_nil hS).start |>.oL gB) rfl ?_;unfold JN at hM;refine sr ?_;refine oB (fZ p0 av) fun b1=>?_;refine aL ?_;refine aJ ?_;refine oe ig ?_;refine om ?_;refine au rfl aH ?_;refine au rfl (ay 3) ?_;refine au rfl (aD (b:=b1)) ?_;refine au rfl bf ?_;refine au rfl bK ?_;refine oe dB ?_
 refine aL ?_;exact aP (bD hM)
def Ht(p0:Plan)(i0:Int)(k0:Int):Option Bool:=
 (JN p0 i0).bind fun y2=>
 (dW (y2&&decide (0≤k0)) default (idx p0.Lines i0)).bind fun x4=>
 if (y2&&decide (0≤k0)) then
 (some ((y2&&decide (0≤k0))&&decide (k0<(x4.bC.length:Int))))
 else
 (some false)
theorem U7(S:bF)(w:World)(p0:Plan)(av:ak.R Plan)(i0:Int)(k0:Int)(y:Bool)(hM:Ht p0 i0 k0=some y)(hS:sB S w)(gB:ak.ok S w av p0):
   Calls Tryz.prog 74 #[.agg (mO p0 av),vI i0,vI k0] w (dw w (.bool y)):=by
 refine bW (args:=[_,_,_]) Tryz.func74 rfl ((pre_nil hS).start |>.oL gB) rfl ?_;unfold Ht at hM;refine sr ?_;refine oB (fZ p0 av) fun b1=>?_;refine aL ?_;refine sr ?_;refine oe (bM (b:=b1)) ?_;refine om ?_;obtain⟨y2,hy3,hM⟩:=bind_some hM;refine cv (fun hs=>aas _ _ p0 av i0 y2 hy3 (bq hs) ⟨(kM hs),(kM hs),(kM hs),(kM hs),(kM hs),(kM hs),(kM hs)⟩) ?_
 refine om ?_;refine au rfl aH ?_;refine au rfl ig ?_;refine oe dB ?_;refine om ?_;refine au rfl aH ?_;refine au rfl (ay 3) ?_;refine au rfl (aD (b:=b1)) ?_;refine au rfl aH ?_;obtain⟨x4,hx5,hM⟩:=bind_some hM;refine au rfl (aQ (xs:=p0.Lines) 4 (kG p0.Lines av.2.2.1) (fun hg=>let h:=jG (dF hx5 hg);⟨h.1,h.2.1⟩)) ?_;refine au rfl (ay 3) ?_;refine QE (y2&&decide (0≤k0)) (fun wS=>?_) (fun wS=>?_)
 ·replace hM:=iT wS hM;have hx7:=dF hx5 wS;refine ze 15 wS rfl ?_;refine ze 16 wS rfl ?_;refine ze 17 wS rfl ?_;refine ze 18 wS rfl ?_;refine ze 19 wS rfl ?_;refine ze 20 wS rfl ?_;refine wz rfl wS ?_;refine oe (bE (i:=i0) (xs:=p0.Lines) (y:=x4) 3 (kG p0.Lines av.2.2.1) (fun _=>hx7)) ?_;refine wz rfl wS ?_;refine oe bf ?_;refine wz rfl wS ?_;refine oe bK ?_;refine oe dB ?_;refine aL ?_;exact aP (bD hM)
 replace hM:=iF wS hM;refine wu rfl wS ?_;refine wu rfl wS ?_;refine wu rfl wS ?_;refine oe (Jc wS) ?_;refine aL ?_;exact aP (bD hM)
def JO(p0:Plan)(r0:gL):Option Int:=
 (idx p0.Routes r0.aO).bind fun x3=>
 (idx x3.Steps 0).bind fun x5=>
 some x5.Section
theorem aat(S:bF)(w:World)(p0:Plan)(av:ak.R Plan)(r0:gL)(y:Int)(hM:JO p0 r0=some y)(hS:sB S w)(gB:ak.ok S w av p0):
  Calls Tryz.prog 77 #[.agg (mO p0 av),.agg (abG r0)] w (dw w (vI y)):=by
 refine bW (args:=[_,_]) Tryz.func77 rfl ((pre_nil hS).start |>.oL gB) rfl ?_;unfold JO at hM;refine sr ?_;refine oB (fZ p0 av) fun b1=>?_;refine oB (Bb r0) fun b2=>?_;refine aL ?_;refine sr ?_;refine oe (ay 2) ?_;refine oe (aD (b:=b1)) ?_;refine oe (ay 0) ?_;refine oe (aD (b:=b2)) ?_
 obtain⟨x3,hx4,hM⟩:=bind_some hM;refine oe (aQ (xs:=p0.Routes) 2 (kG p0.Routes av.2.1) (iS hx4)) ?_;refine oe (ay 0) ?_;refine oe (bE (i:=r0.aO) (xs:=p0.Routes) (y:=x3) 0 (kG p0.Routes av.2.1) (fun _=>hx4)) ?_;obtain⟨x5,hx6,hM⟩:=bind_some hM;refine oe (aQ (xs:=x3.Steps) 2 ((Sk.elem (Sk.cO (α:=List aO) (r:=av.2.1) (x:=p0.Routes) hA) hx4)).kn (iS hx6)) ?_;refine oe (ay 0) ?_;refine oe (bE (i:=0) (xs:=x3.Steps) (y:=x5) 0 ((Sk.elem (Sk.cO (α:=List aO) (r:=av.2.1) (x:=p0.Routes) hA) hx4)).kn (fun _=>hx6)) ?_;refine aL ?_;exact aP (bD hM)
def JQ(p0:Plan)(r0:gL):Option Int:=
 (idx p0.Routes r0.aO).bind fun x3=>
 (idx p0.Routes r0.aO).bind fun x5=>
 aX (bA ((x3.Steps.length:Int)-x5.Overlap))<|
 aX (bA (((x3.Steps.length:Int)-x5.Overlap)-1))<|
 (idx x3.Steps (((x3.Steps.length:Int)-x5.Overlap)-1)).bind fun x9=>
 some x9.Section
theorem aau(S:bF)(w:World)(p0:Plan)(av:ak.R Plan)(r0:gL)(y:Int)(hM:JQ p0 r0=some y)(hS:sB S w)(gB:ak.ok S w av p0):
  Calls Tryz.prog 76 #[.agg (mO p0 av),.agg (abG r0)] w (dw w (vI y)):=by
 refine bW (args:=[_,_]) Tryz.func76 rfl ((pre_nil hS).start |>.oL gB) rfl ?_;unfold JQ at hM;refine sr ?_;refine oB (fZ p0 av) fun b1=>?_;refine oB (Bb r0) fun b2=>?_;refine aL ?_;refine aF fun K2 hK2=>?_;refine fE _ (List.Sublist.refl _) ?_;refine aj 0 rfl (ay 2) ?_;refine aj 1 rfl (aD (b:=b1)) ?_;refine aj 2 rfl (ay 0) ?_
 refine aj 3 rfl (aD (b:=b2)) ?_;obtain⟨x3,hx4,hM⟩:=bind_some hM;refine aj 4 rfl (aQ (xs:=p0.Routes) 2 (kG p0.Routes av.2.1) (iS hx4)) ?_;refine aj 5 rfl (ay 0) ?_;refine aj 6 rfl (bE (i:=r0.aO) (xs:=p0.Routes) (y:=x3) 0 (kG p0.Routes av.2.1) (fun _=>hx4)) ?_;refine aj 7 rfl (ay 2) ?_;refine aj 8 rfl (aD (b:=b1)) ?_;refine aj 9 rfl (ay 0) ?_;refine aj 10 rfl (aD (b:=b2)) ?_;obtain⟨x5,hx6,hM⟩:=bind_some hM;refine aj 11 rfl (aQ (xs:=p0.Routes) 2 (kG p0.Routes av.2.1) (iS hx6)) ?_;refine aj 12 rfl (ay 1) ?_;refine aj 13 rfl (bE (i:=r0.aO) (xs:=p0.Routes) (y:=x5) 1 (kG p0.Routes av.2.1) (fun _=>hx6)) ?_;refine aj 14 rfl dL ?_;refine aj 15 rfl dL ?_;refine dK (hK2 _ _ ?_);clear hK2;refine aJ ?_;refine om ?_;refine oe bf ?_;refine om ?_;refine oN hM fun hM=>?_;refine oN hM fun hM=>?_;obtain⟨x9,mG,hM⟩:=bind_some hM;refine oe (aQ (xs:=x3.Steps) 2 ((Sk.elem (Sk.cO (α:=List aO) (r:=av.2.1) (x:=p0.Routes) hA) hx4)).kn (iS mG)) ?_
 refine oe (ay 0) ?_;refine oe (bE (i:=(((x3.Steps.length:Int)-x5.Overlap)-1)) (xs:=x3.Steps) (y:=x9) 0 ((Sk.elem (Sk.cO (α:=List aO) (r:=av.2.1) (x:=p0.Routes) hA) hx4)).kn (fun _=>mG)) ?_;refine aL ?_;exact aP (bD hM)
def aaq(t0:bL)(p0:bL):Option Bool:=
 some (decide (t0.Name=p0.Name))
theorem ami(S:bF)(w:World)(t0:bL)(gZ:Nat)(p0:bL)(y:Bool)(hM:aaq t0 p0=some y)(hS:sB S w)(Pn:S gZ∧w.heap[gZ]?=some (.cells (vg p0).toArray 62 (0,0))):
  Calls Tryz.prog 67 #[.agg (IX t0),vP gZ] w (dw w (.bool y)):=by
 refine bW (args:=[_,_]) Tryz.func67 rfl ((pre_nil hS).start |>.z8 Pn) rfl ?_;unfold aaq at hM;refine sr ?_;refine oB (vg t0) fun b1=>?_;refine aL ?_;refine sr ?_;refine oe (ay 0) ?_;refine oe (aD (b:=b1)) ?_;refine oe (ay 0) ?_;refine oe (pV (b:=gZ)) ?_;refine oe Lf ?_;refine aL ?_;exact aP (bD hM)
def aao(k0:Line)(p0:Line):Option Bool:=
 some (decide (k0.Name=p0.Name))
theorem amd(S:bF)(w:World)(k0:Line)(Vd:ak.R Line)(gZ:Nat)(p0:Line)(av:ak.R Line)(y:Bool)(hM:aao k0 p0=some y)(hS:sB S w)(ai9:ak.ok S w Vd k0)(Pn:S gZ∧w.heap[gZ]?=some (.cells (mR p0 av).toArray 47 (0,0)))(gB:ak.ok S w av p0):
  Calls Tryz.prog 71 #[.agg (Xz k0 Vd),vP gZ] w (dw w (.bool y)):=by
 refine bW (args:=[_,_]) Tryz.func71 rfl ((pre_nil hS).start |>.dZ (α:=List gL) (r:=Vd) (x:=k0.bC) ai9|>.z8 Pn|>.dZ (α:=List gL) (r:=av) (x:=p0.bC) gB) rfl ?_;unfold aao at hM;refine sr ?_;refine oB (mR k0 Vd) fun b1=>?_;refine aL ?_;refine sr ?_;refine oe (ay 0) ?_;refine oe (aD (b:=b1)) ?_;refine oe (ay 0) ?_;refine oe (pV (b:=gZ)) ?_;refine oe Lf ?_;refine aL ?_;exact aP (bD hM)
def aar(u0:Turn)(p0:Turn):Option Bool:=
 some (decide (u0.From=p0.From)||decide (u0.To=p0.To))
theorem aml(S:bF)(w:World)(u0:Turn)(gZ:Nat)(p0:Turn)(y:Bool)(hM:aar u0 p0=some y)(hS:sB S w)(Pn:S gZ∧w.heap[gZ]?=some (.cells (Bd p0).toArray 116 (0,0))):
  Calls Tryz.prog 80 #[.agg (abJ u0),vP gZ] w (dw w (.bool y)):=by
 refine bW (args:=[_,_]) Tryz.func80 rfl ((pre_nil hS).start |>.z8 Pn) rfl ?_;unfold aar at hM;refine sr ?_;refine oB (Bd u0) fun b1=>?_;refine aL ?_;refine sr ?_;refine oe (ay 0) ?_;refine oe (aD (b:=b1)) ?_;refine oe (ay 0) ?_;refine oe (pV (b:=gZ)) ?_;refine oe fI ?_;refine om ?_;refine au rfl (ay 1) ?_;refine au rfl (aD (b:=b1)) ?_;refine au rfl (ay 1) ?_;refine au rfl (pV (b:=gZ)) ?_;refine au rfl fI ?_;refine oe bP ?_;refine aL ?_;exact aP (bD hM)
def agx:Unit→Option Int:=fun _=>
 some (-1)
def V7(s0:List bL)(jB:bL)(aN:Nat→Option Int):Nat→Option Int:=fun iN=>
 if decide ((iN:Int)<(s0.length:Int)) then
  ((idx s0 (iN:Int)).bind fun x3=>
  (aaq x3 jB).bind fun y5=>
  if y5 then
   (some (iN:Int))
  else
   (aN (iN+1)))
 else
  (agx ())
def V8(s0:List bL)(jB:bL):Option Int:=
 iter (V7 s0 jB) FUEL 0
theorem anz(S:bF)(w:World)(s0:List bL)(bR:ak.R (List bL))(lI:Nat)(jB:bL)(y:Int)(hM:V8 s0 jB=some y)(hS:sB S w)(Ay:ak.ok S w bR s0)(Dt:S lI∧w.heap[lI]?=some (.cells (vg jB).toArray 62 (0,0))):
   Calls Tryz.prog 103 #[sL bR s0,.func (.func 67) #[] #[vP lI]] w (dw w (vI y)):=by
 refine bW (args:=[_,_]) Tryz.func103 rfl ((pre_nil hS).start |>.dZ (α:=List bL) (r:=bR) (x:=s0) Ay|>.z8 Dt) rfl ?_;unfold V8 at hM;refine bg ?_;refine aF fun K2 hK2=>?_;refine aJ ?_;refine gU (fun w hm=>Kn.len (kG s0 bR) hm) fun hl1=>?_;refine oe bf ?_;refine om ?_;refine on ?_;refine aV ?_;refine lq hM (fun iN=>[(0,eS bR s0),(1,.v (.func (.func 67) #[] #[vP lI])),(7,eI (s0.length:Int)),(8,eI (iN:Int))]) (fun iN=>[iL s0 bR,kV lI 62 (vg jB)]) sS rI ?_;clear hM;rintro aN iN hM fQ hL1;dsimp only[V7] at hM ⊢;refine sr ?_;refine oe bK ?_;refine on ?_;refine aF fun K5 bT=>?_;refine cc rfl hM (fun hc2 hM=>?_) (fun hc2 hM=>?_)
 ·have FL:=of_decide_eq_true hc2;refine aM (bT _ _ ?_);clear bT;refine aF fun K6 bU=>?_;refine aV ?_;refine aJ ?_;refine aL ?_;refine aJ ?_;refine om ?_;refine om ?_;obtain⟨x3,hx4,hM⟩:=bind_some hM;refine oe (aQ (xs:=s0) 5 (kG s0 bR) (iS hx4)) ?_;refine oe (eY (m:=5) (i:=(iN:Int)) (xs:=s0) (y:=x3) (l:=(vg x3)) 0 (kG s0 bR) (fun _=>hx4)) ?_;obtain⟨y5,yS,hM⟩:=bind_some hM;refine aY (Wn (vs:=[.agg (IX x3)]) (cap:=[vP lI]) (fun w hm=>let ⟨S,hs⟩:=hm;ami _ w x3 lI jB y5 yS (bq hs) (JX hA hs)) ?_);refine on ?_;refine cc rfl hM (fun lY hM=>?_) (fun lY hM=>?_)
  · refine aJ ?_;refine aL ?_;exact aP (bD hM)
  refine aM (bU _ _ ?_);clear bU;refine aT ?_;refine oe (dh (hr:=fun _=>by unfold dS;omega)) ?_;refine om ?_;refine aU (hL1 hM sS rI)
 refine bX (hK2 _ _ ?_);clear hK2;dsimp only[agx] at hM;refine bg ?_;exact aP (bD hM)
def R5(s0:List bL)(jB:bL):Option Bool:=
 (V8 s0 jB).bind fun y1=>
 some (decide (0≤y1))
theorem anv(S:bF)(w:World)(s0:List bL)(bR:ak.R (List bL))(lI:Nat)(jB:bL)(y:Bool)(hM:R5 s0 jB=some y)(hS:sB S w)(Ay:ak.ok S w bR s0)(Dt:S lI∧w.heap[lI]?=some (.cells (vg jB).toArray 62 (0,0))):
  Calls Tryz.prog 66 #[sL bR s0,.func (.func 67) #[] #[vP lI]] w (dw w (.bool y)):=by
 refine bW (args:=[_,_]) Tryz.func66 rfl ((pre_nil hS).start |>.dZ (α:=List bL) (r:=bR) (x:=s0) Ay|>.z8 Dt) rfl ?_;unfold R5 at hM;refine bg ?_;refine aJ ?_;refine om ?_;obtain⟨y1,hy2,hM⟩:=bind_some hM;refine cv (fun hs=>anz _ _ s0 bR lI jB y1 hy2 (bq hs) (kM hs) (JX hA hs)) ?_;refine oe ig ?_;refine aL ?_;exact aP (bD hM)
def agw:Unit→Option Int:=fun _=>
 some (-1)
def V5(s0:List Line)(jB:Line)(aN:Nat→Option Int):Nat→Option Int:=fun iN=>
 if decide ((iN:Int)<(s0.length:Int)) then
  ((idx s0 (iN:Int)).bind fun x3=>
  (aao x3 jB).bind fun y5=>
  if y5 then
   (some (iN:Int))
  else
   (aN (iN+1)))
 else
  (agw ())
def V6(s0:List Line)(jB:Line):Option Int:=
 iter (V5 s0 jB) FUEL 0
theorem anx(S:bF)(w:World)(s0:List Line)(bR:ak.R (List Line))(lI:Nat)(jB:Line)(D5:ak.R Line)(y:Int)(hM:V6 s0 jB=some y)(hS:sB S w)(Ay:ak.ok S w bR s0)(Dt:S lI∧w.heap[lI]?=some (.cells (mR jB D5).toArray 47 (0,0)))(YC:ak.ok S w D5 jB):
   Calls Tryz.prog 105 #[sL bR s0,.func (.func 71) #[] #[vP lI]] w (dw w (vI y)):=by
 refine bW (args:=[_,_]) Tryz.func105 rfl ((pre_nil hS).start |>.dZ (α:=List Line) (r:=bR) (x:=s0) Ay|>.z8 Dt|>.dZ (α:=List gL) (r:=D5) (x:=jB.bC) YC) rfl ?_;unfold V6 at hM;refine bg ?_;refine aF fun K2 hK2=>?_;refine aJ ?_;refine gU (fun w hm=>Kn.len (kG s0 bR) hm) fun hl1=>?_;refine oe bf ?_;refine om ?_;refine on ?_;refine aV ?_;refine lq hM (fun iN=>[(0,eS bR s0),(1,.v (.func (.func 71) #[] #[vP lI])),(7,eI (s0.length:Int)),(8,eI (iN:Int))]) (fun iN=>[iL s0 bR,iL jB.bC D5,kV lI 47 (mR jB D5)]) sS rI ?_;clear hM;rintro aN iN hM fQ hL1;dsimp only[V5] at hM ⊢;refine sr ?_;refine oe bK ?_;refine on ?_;refine aF fun K5 bT=>?_;refine cc rfl hM (fun hc2 hM=>?_) (fun hc2 hM=>?_)
 ·have FL:=of_decide_eq_true hc2;refine aM (bT _ _ ?_);clear bT;refine aF fun K6 bU=>?_;refine aV ?_;refine aJ ?_;refine aL ?_;refine aJ ?_;refine om ?_;refine om ?_;obtain⟨x3,hx4,hM⟩:=bind_some hM;refine oe (aQ (xs:=s0) 4 (kG s0 bR) (iS hx4)) ?_;refine oe (eY (m:=4) (i:=(iN:Int)) (xs:=s0) (y:=x3) (l:=(mR x3 (bR.es (iN:Int).toNat))) 0 (kG s0 bR) (fun _=>hx4)) ?_;obtain⟨y5,yS,hM⟩:=bind_some hM;refine aY (Wn (vs:=[.agg (Xz x3 (bR.es (iN:Int).toNat))]) (cap:=[vP lI]) (fun w hm=>let ⟨S,hs⟩:=hm;amd _ w x3 (bR.es (iN:Int).toNat) lI jB D5 y5 yS (bq hs) (Kn.lend ((Sk.elem (Sk.cO (α:=List Line) (r:=bR) (x:=s0) hA) hx4)).kn hs) (JX hA hs) (kM hs)) ?_);refine on ?_;refine cc rfl hM (fun lY hM=>?_) (fun lY hM=>?_)
  · refine aJ ?_;refine aL ?_;exact aP (bD hM)
  refine aM (bU _ _ ?_);clear bU;refine aT ?_;refine oe (dh (hr:=fun _=>by unfold dS;omega)) ?_;refine om ?_;refine aU (hL1 hM sS rI)
 refine bX (hK2 _ _ ?_);clear hK2;dsimp only[agw] at hM;refine bg ?_;exact aP (bD hM)
def R4(s0:List Line)(jB:Line):Option Bool:=
 (V6 s0 jB).bind fun y1=>
 some (decide (0≤y1))
theorem anu(S:bF)(w:World)(s0:List Line)(bR:ak.R (List Line))(lI:Nat)(jB:Line)(D5:ak.R Line)(y:Bool)(hM:R4 s0 jB=some y)(hS:sB S w)(Ay:ak.ok S w bR s0)(Dt:S lI∧w.heap[lI]?=some (.cells (mR jB D5).toArray 47 (0,0)))(YC:ak.ok S w D5 jB):
  Calls Tryz.prog 70 #[sL bR s0,.func (.func 71) #[] #[vP lI]] w (dw w (.bool y)):=by
 refine bW (args:=[_,_]) Tryz.func70 rfl ((pre_nil hS).start |>.dZ (α:=List Line) (r:=bR) (x:=s0) Ay|>.z8 Dt|>.dZ (α:=List gL) (r:=D5) (x:=jB.bC) YC) rfl ?_;unfold R4 at hM;refine bg ?_;refine aJ ?_;refine om ?_;obtain⟨y1,hy2,hM⟩:=bind_some hM;refine cv (fun hs=>anx _ _ s0 bR lI jB D5 y1 hy2 (bq hs) (kM hs) (JX hA hs) (kM hs)) ?_;refine oe ig ?_;refine aL ?_;exact aP (bD hM)
def agy:Unit→Option Int:=fun _=>
 some (-1)
def V9(s0:List Turn)(jB:Turn)(aN:Nat→Option Int):Nat→Option Int:=fun iN=>
 if decide ((iN:Int)<(s0.length:Int)) then
  ((idx s0 (iN:Int)).bind fun x3=>
  (aar x3 jB).bind fun y5=>
  if y5 then
   (some (iN:Int))
  else
   (aN (iN+1)))
 else
  (agy ())
def Wh(s0:List Turn)(jB:Turn):Option Int:=
 iter (V9 s0 jB) FUEL 0
theorem anA(S:bF)(w:World)(s0:List Turn)(bR:ak.R (List Turn))(lI:Nat)(jB:Turn)(y:Int)(hM:Wh s0 jB=some y)(hS:sB S w)(Ay:ak.ok S w bR s0)(Dt:S lI∧w.heap[lI]?=some (.cells (Bd jB).toArray 116 (0,0))):
   Calls Tryz.prog 107 #[sL bR s0,.func (.func 80) #[] #[vP lI]] w (dw w (vI y)):=by
 refine bW (args:=[_,_]) Tryz.func107 rfl ((pre_nil hS).start |>.dZ (α:=List Turn) (r:=bR) (x:=s0) Ay|>.z8 Dt) rfl ?_;unfold Wh at hM;refine bg ?_;refine aF fun K2 hK2=>?_;refine aJ ?_;refine gU (fun w hm=>Kn.len (kG s0 bR) hm) fun hl1=>?_;refine oe bf ?_;refine om ?_;refine on ?_;refine aV ?_;refine lq hM (fun iN=>[(0,eS bR s0),(1,.v (.func (.func 80) #[] #[vP lI])),(7,eI (s0.length:Int)),(8,eI (iN:Int))]) (fun iN=>[iL s0 bR,kV lI 116 (Bd jB)]) sS rI ?_;clear hM;rintro aN iN hM fQ hL1;dsimp only[V9] at hM ⊢;refine sr ?_;refine oe bK ?_;refine on ?_;refine aF fun K5 bT=>?_;refine cc rfl hM (fun hc2 hM=>?_) (fun hc2 hM=>?_)
 ·have FL:=of_decide_eq_true hc2;refine aM (bT _ _ ?_);clear bT;refine aF fun K6 bU=>?_;refine aV ?_;refine aJ ?_;refine aL ?_;refine aJ ?_;refine om ?_;refine om ?_;obtain⟨x3,hx4,hM⟩:=bind_some hM;refine oe (aQ (xs:=s0) 4 (kG s0 bR) (iS hx4)) ?_;refine oe (eY (m:=4) (i:=(iN:Int)) (xs:=s0) (y:=x3) (l:=(Bd x3)) 0 (kG s0 bR) (fun _=>hx4)) ?_;obtain⟨y5,yS,hM⟩:=bind_some hM;refine aY (Wn (vs:=[.agg (abJ x3)]) (cap:=[vP lI]) (fun w hm=>let ⟨S,hs⟩:=hm;aml _ w x3 lI jB y5 yS (bq hs) (JX hA hs)) ?_);refine on ?_;refine cc rfl hM (fun lY hM=>?_) (fun lY hM=>?_)
  · refine aJ ?_;refine aL ?_;exact aP (bD hM)
  refine aM (bU _ _ ?_);clear bU;refine aT ?_;refine oe (dh (hr:=fun _=>by unfold dS;omega)) ?_;refine om ?_;refine aU (hL1 hM sS rI)
 refine bX (hK2 _ _ ?_);clear hK2;dsimp only[agy] at hM;refine bg ?_;exact aP (bD hM)
def R6(s0:List Turn)(jB:Turn):Option Bool:=
 (Wh s0 jB).bind fun y1=>
 some (decide (0≤y1))
theorem anw(S:bF)(w:World)(s0:List Turn)(bR:ak.R (List Turn))(lI:Nat)(jB:Turn)(y:Bool)(hM:R6 s0 jB=some y)(hS:sB S w)(Ay:ak.ok S w bR s0)(Dt:S lI∧w.heap[lI]?=some (.cells (Bd jB).toArray 116 (0,0))):
  Calls Tryz.prog 79 #[sL bR s0,.func (.func 80) #[] #[vP lI]] w (dw w (.bool y)):=by
 refine bW (args:=[_,_]) Tryz.func79 rfl ((pre_nil hS).start |>.dZ (α:=List Turn) (r:=bR) (x:=s0) Ay|>.z8 Dt) rfl ?_;unfold R6 at hM;refine bg ?_;refine aJ ?_;refine om ?_;obtain⟨y1,hy2,hM⟩:=bind_some hM;refine cv (fun hs=>anA _ _ s0 bR lI jB y1 hy2 (bq hs) (kM hs) (JX hA hs)) ?_;refine oe ig ?_;refine aL ?_;exact aP (bD hM)
end Go.Proofs.YtcalibhfgdncaaaGreat

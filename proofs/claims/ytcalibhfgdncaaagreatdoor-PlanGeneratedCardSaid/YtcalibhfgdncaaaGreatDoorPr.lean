/- Models of functions, and that the code computes them. -/
import Derived.Test.YtcalibhfgdncaaaGreatDoorTypes
set_option linter.all false
namespace Go.Proofs.YtcalibhfgdncaaaGreatDoor
open Go.Dc Go.RowKit
set_option maxRecDepth 10000
def RX(p0:Int):Option Bool:=
 some (decide (0≤p0)&&decide (p0≤1048576))
theorem af2(S:bO)(w:World)(p0:Int)(y:Bool)(hM:RX p0=some y)(hS:sB S w):
  Calls Tryz.prog 85 #[vI p0] w (dz w (.bool y)):=by
 refine cu (args:=[_]) Tryz.func85 rfl ((pre_nil hS).start) rfl ?_;unfold RX at hM;refine bI ?_;refine aW ?_;refine oe jK ?_;refine om ?_;refine aD rfl aL ?_;refine aD rfl oI ?_;refine oe dG ?_;refine aT ?_;exact aY (bQ hM)
def J9(p0:Plan)(jS:Int)(hi0:Int):Option Bool:=
 bq (!((decide (0≤jS)&&decide (jS≤hi0))&&decide (hi0≤7200))||bJ (jS+p0.bU))<|
 some (((decide (0≤jS)&&decide (jS≤hi0))&&decide (hi0≤7200))&&decide (hi0<(jS+p0.bU)))
theorem abo(S:bO)(w:World)(p0:Plan)(ah:aC.R Plan)(jS:Int)(hi0:Int)(y:Bool)(hM:J9 p0 jS hi0=some y)(hS:sB S w)(fT:aC.ok S w ah p0):
  Calls Tryz.prog 88 #[.agg (iV p0 ah),vI jS,vI hi0] w (dz w (.bool y)):=by
 refine cu (args:=[_,_,_]) Tryz.func88 rfl ((pre_nil hS).start |>.nS fT) rfl ?_;unfold J9 at hM;refine sr ?_;refine oB (dh p0 ah) fun b1=>?_;refine aT ?_;refine aW ?_;refine oe oI ?_;refine om ?_;refine aD rfl aL ?_;refine aD rfl aL ?_;refine aD rfl oI ?_;refine oe dG ?_;refine om ?_;refine aD rfl aL ?_;refine aD rfl oI ?_
 refine oe dG ?_;refine om ?_;refine aD rfl aL ?_;refine aD rfl aL ?_;refine aD rfl (av 0) ?_;refine aD rfl (aF (b:=b1)) ?_;obtain⟨hI2,hM⟩:=bW hM;refine aD rfl (eH (hr:=fun hg=>dY (Cb hI2 hg))) ?_;refine aD rfl bY ?_;refine oe dG ?_;refine aT ?_;exact aY (bQ hM)
def Kc(p0:Plan)(i0:Int):Option Bool:=
 some (decide (0≤i0)&&decide (i0<(p0.Lines.length:Int)))
theorem abu(S:bO)(w:World)(p0:Plan)(ah:aC.R Plan)(i0:Int)(y:Bool)(hM:Kc p0 i0=some y)(hS:sB S w)(fT:aC.ok S w ah p0):
  Calls Tryz.prog 91 #[.agg (iV p0 ah),vI i0] w (dz w (.bool y)):=by
 refine cu (args:=[_,_]) Tryz.func91 rfl ((pre_nil hS).start |>.nS fT) rfl ?_;unfold Kc at hM;refine sr ?_;refine oB (dh p0 ah) fun b1=>?_;refine aT ?_;refine aW ?_;refine oe jK ?_;refine om ?_;refine aD rfl aL ?_;refine aD rfl (av 3) ?_;refine aD rfl (aF (b:=b1)) ?_;refine aD rfl bL ?_;refine aD rfl bY ?_;refine oe dG ?_
 refine aT ?_;exact aY (bQ hM)
def Hq(p0:Plan)(i0:Int)(k0:Int):Option Bool:=
 (Kc p0 i0).bind fun y2=>
 (fK (y2&&decide (0≤k0)) default (idx p0.Lines i0)).bind fun x4=>
 if (y2&&decide (0≤k0)) then
 (some ((y2&&decide (0≤k0))&&decide (k0<(x4.aJ.length:Int))))
 else
 (some false)
theorem Wo(S:bO)(w:World)(p0:Plan)(ah:aC.R Plan)(i0:Int)(k0:Int)(y:Bool)(hM:Hq p0 i0 k0=some y)(hS:sB S w)(fT:aC.ok S w ah p0):
   Calls Tryz.prog 87 #[.agg (iV p0 ah),vI i0,vI k0] w (dz w (.bool y)):=by
 refine cu (args:=[_,_,_]) Tryz.func87 rfl ((pre_nil hS).start |>.nS fT) rfl ?_;unfold Hq at hM;refine sr ?_;refine oB (dh p0 ah) fun b1=>?_;refine aT ?_;refine sr ?_;refine oe (bR (b:=b1)) ?_;refine om ?_;obtain⟨y2,hy3,hM⟩:=bind_some hM;refine cv (fun hs=>abu _ _ p0 ah i0 y2 hy3 (bf hs) ⟨(kM hs),(kM hs),(kM hs),(kM hs),(kM hs),(kM hs),(kM hs)⟩) ?_
 refine om ?_;refine aD rfl aL ?_;refine aD rfl jK ?_;refine oe dG ?_;refine om ?_;refine aD rfl aL ?_;refine aD rfl (av 3) ?_;refine aD rfl (aF (b:=b1)) ?_;refine aD rfl aL ?_;obtain⟨x4,hx5,hM⟩:=bind_some hM;refine aD rfl (bD (xs:=p0.Lines) 4 (kG p0.Lines ah.2.2.1) (fun hg=>let h:=nH (eF hx5 hg);⟨h.1,h.2.1⟩)) ?_;refine aD rfl (av 3) ?_;refine afN (y2&&decide (0≤k0)) (fun vU=>?_) (fun vU=>?_)
 ·replace hM:=iT vU hM;have hx7:=eF hx5 vU;refine BA 15 vU rfl ?_;refine BA 16 vU rfl ?_;refine BA 17 vU rfl ?_;refine BA 18 vU rfl ?_;refine BA 19 vU rfl ?_;refine BA 20 vU rfl ?_;refine Hg rfl vU ?_;refine oe (bT (i:=i0) (xs:=p0.Lines) (y:=x4) 3 (kG p0.Lines ah.2.2.1) (fun _=>hx7)) ?_;refine Hg rfl vU ?_;refine oe bL ?_;refine Hg rfl vU ?_;refine oe bY ?_;refine oe dG ?_;refine aT ?_;exact aY (bQ hM)
 replace hM:=iF vU hM;refine Hf rfl vU ?_;refine Hf rfl vU ?_;refine Hf rfl vU ?_;refine oe (P5 vU) ?_;refine aT ?_;exact aY (bQ hM)
def Kg(p0:Plan)(r0:aM):Option Int:=
 (idx p0.Routes r0.aO).bind fun x3=>
 (idx x3.Steps 0).bind fun x5=>
 some x5.Section
theorem abw(S:bO)(w:World)(p0:Plan)(ah:aC.R Plan)(r0:aM)(y:Int)(hM:Kg p0 r0=some y)(hS:sB S w)(fT:aC.ok S w ah p0):
  Calls Tryz.prog 90 #[.agg (iV p0 ah),.agg (adA r0)] w (dz w (vI y)):=by
 refine cu (args:=[_,_]) Tryz.func90 rfl ((pre_nil hS).start |>.nS fT) rfl ?_;unfold Kg at hM;refine sr ?_;refine oB (dh p0 ah) fun b1=>?_;refine oB (wY r0) fun b2=>?_;refine aT ?_;refine sr ?_;refine oe (av 2) ?_;refine oe (aF (b:=b1)) ?_;refine oe (av 0) ?_;refine oe (aF (b:=b2)) ?_
 obtain⟨x3,hx4,hM⟩:=bind_some hM;refine oe (bD (xs:=p0.Routes) 2 (kG p0.Routes ah.2.1) (iS hx4)) ?_;refine oe (av 0) ?_;refine oe (bT (i:=r0.aO) (xs:=p0.Routes) (y:=x3) 0 (kG p0.Routes ah.2.1) (fun _=>hx4)) ?_;obtain⟨x5,hx6,hM⟩:=bind_some hM;refine oe (bD (xs:=x3.Steps) 2 ((Sk.elem (Sk.dw (α:=List aO) (r:=ah.2.1) (x:=p0.Routes) hA) hx4)).kn (iS hx6)) ?_;refine oe (av 0) ?_;refine oe (bT (i:=0) (xs:=x3.Steps) (y:=x5) 0 ((Sk.elem (Sk.dw (α:=List aO) (r:=ah.2.1) (x:=p0.Routes) hA) hx4)).kn (fun _=>hx6)) ?_;refine aT ?_;exact aY (bQ hM)
def Kh(p0:Plan)(r0:aM):Option Int:=
 (idx p0.Routes r0.aO).bind fun x3=>
 (idx p0.Routes r0.aO).bind fun x5=>
 bq (bJ ((x3.Steps.length:Int)-x5.Overlap))<|
 bq (bJ (((x3.Steps.length:Int)-x5.Overlap)-1))<|
 (idx x3.Steps (((x3.Steps.length:Int)-x5.Overlap)-1)).bind fun x9=>
 some x9.Section
theorem abx(S:bO)(w:World)(p0:Plan)(ah:aC.R Plan)(r0:aM)(y:Int)(hM:Kh p0 r0=some y)(hS:sB S w)(fT:aC.ok S w ah p0):
  Calls Tryz.prog 89 #[.agg (iV p0 ah),.agg (adA r0)] w (dz w (vI y)):=by
 refine cu (args:=[_,_]) Tryz.func89 rfl ((pre_nil hS).start |>.nS fT) rfl ?_;unfold Kh at hM;refine sr ?_;refine oB (dh p0 ah) fun b1=>?_;refine oB (wY r0) fun b2=>?_;refine aT ?_;refine aK fun K2 hK2=>?_;refine gy _ (List.Sublist.refl _) ?_;refine ak 0 rfl (av 2) ?_;refine ak 1 rfl (aF (b:=b1)) ?_;refine ak 2 rfl (av 0) ?_
 refine ak 3 rfl (aF (b:=b2)) ?_;obtain⟨x3,hx4,hM⟩:=bind_some hM;refine ak 4 rfl (bD (xs:=p0.Routes) 2 (kG p0.Routes ah.2.1) (iS hx4)) ?_;refine ak 5 rfl (av 0) ?_;refine ak 6 rfl (bT (i:=r0.aO) (xs:=p0.Routes) (y:=x3) 0 (kG p0.Routes ah.2.1) (fun _=>hx4)) ?_;refine ak 7 rfl (av 2) ?_;refine ak 8 rfl (aF (b:=b1)) ?_;refine ak 9 rfl (av 0) ?_;refine ak 10 rfl (aF (b:=b2)) ?_;obtain⟨x5,hx6,hM⟩:=bind_some hM;refine ak 11 rfl (bD (xs:=p0.Routes) 2 (kG p0.Routes ah.2.1) (iS hx6)) ?_;refine ak 12 rfl (av 1) ?_;refine ak 13 rfl (bT (i:=r0.aO) (xs:=p0.Routes) (y:=x5) 1 (kG p0.Routes ah.2.1) (fun _=>hx6)) ?_;refine ak 14 rfl dD ?_;refine ak 15 rfl dD ?_;refine dP (hK2 _ _ ?_);clear hK2;refine aW ?_;refine om ?_;refine oe bL ?_;refine om ?_;refine oN hM fun hM=>?_;refine oN hM fun hM=>?_;obtain⟨x9,ni,hM⟩:=bind_some hM;refine oe (bD (xs:=x3.Steps) 2 ((Sk.elem (Sk.dw (α:=List aO) (r:=ah.2.1) (x:=p0.Routes) hA) hx4)).kn (iS ni)) ?_
 refine oe (av 0) ?_;refine oe (bT (i:=(((x3.Steps.length:Int)-x5.Overlap)-1)) (xs:=x3.Steps) (y:=x9) 0 ((Sk.elem (Sk.dw (α:=List aO) (r:=ah.2.1) (x:=p0.Routes) hA) hx4)).kn (fun _=>ni)) ?_;refine aT ?_;exact aY (bQ hM)
def abr(t0:aH)(p0:aH):Option Bool:=
 some (decide (t0.Name=p0.Name))
theorem apX(S:bO)(w:World)(t0:aH)(eY:Nat)(p0:aH)(y:Bool)(hM:abr t0 p0=some y)(hS:sB S w)(Qw:S eY∧w.heap[eY]?=some (.cells (ru p0).toArray 71 (0,0))):
  Calls Tryz.prog 80 #[.agg (Jc t0),vP eY] w (dz w (.bool y)):=by
 refine cu (args:=[_,_]) Tryz.func80 rfl ((pre_nil hS).start |>.CJ Qw) rfl ?_;unfold abr at hM;refine sr ?_;refine oB (ru t0) fun b1=>?_;refine aT ?_;refine sr ?_;refine oe (av 0) ?_;refine oe (aF (b:=b1)) ?_;refine oe (av 0) ?_;refine oe (Bc (b:=eY)) ?_;refine oe xJ ?_;refine aT ?_;exact aY (bQ hM)
def abp(k0:Line)(p0:Line):Option Bool:=
 some (decide (k0.Name=p0.Name))
theorem apS(S:bO)(w:World)(k0:Line)(Wu:aC.R Line)(eY:Nat)(p0:Line)(ah:aC.R Line)(y:Bool)(hM:abp k0 p0=some y)(hS:sB S w)(ak8:aC.ok S w Wu k0)(Qw:S eY∧w.heap[eY]?=some (.cells (kZ p0 ah).toArray 56 (0,0)))(fT:aC.ok S w ah p0):
  Calls Tryz.prog 84 #[.agg (YE k0 Wu),vP eY] w (dz w (.bool y)):=by
 refine cu (args:=[_,_]) Tryz.func84 rfl ((pre_nil hS).start |>.gW (α:=List aM) (r:=Wu) (x:=k0.aJ) ak8|>.CJ Qw|>.gW (α:=List aM) (r:=ah) (x:=p0.aJ) fT) rfl ?_;unfold abp at hM;refine sr ?_;refine oB (kZ k0 Wu) fun b1=>?_;refine aT ?_;refine sr ?_;refine oe (av 0) ?_;refine oe (aF (b:=b1)) ?_;refine oe (av 0) ?_;refine oe (Bc (b:=eY)) ?_;refine oe xJ ?_;refine aT ?_;exact aY (bQ hM)
def abt(u0:Turn)(p0:Turn):Option Bool:=
 some (decide (u0.From=p0.From)||decide (u0.To=p0.To))
theorem ap0(S:bO)(w:World)(u0:Turn)(eY:Nat)(p0:Turn)(y:Bool)(hM:abt u0 p0=some y)(hS:sB S w)(Qw:S eY∧w.heap[eY]?=some (.cells (vg p0).toArray 94 (0,0))):
  Calls Tryz.prog 93 #[.agg (adC u0),vP eY] w (dz w (.bool y)):=by
 refine cu (args:=[_,_]) Tryz.func93 rfl ((pre_nil hS).start |>.CJ Qw) rfl ?_;unfold abt at hM;refine sr ?_;refine oB (vg u0) fun b1=>?_;refine aT ?_;refine sr ?_;refine oe (av 0) ?_;refine oe (aF (b:=b1)) ?_;refine oe (av 0) ?_;refine oe (Bc (b:=eY)) ?_;refine oe dU ?_;refine om ?_;refine aD rfl (av 1) ?_;refine aD rfl (aF (b:=b1)) ?_;refine aD rfl (av 1) ?_;refine aD rfl (Bc (b:=eY)) ?_;refine aD rfl dU ?_;refine oe dQ ?_;refine aT ?_;exact aY (bQ hM)
def ahP:Unit→Option Int:=fun _=>
 some (-1)
def Xw(s0:List aH)(jw:aH)(bA:Nat→Option Int):Nat→Option Int:=fun nD=>
 if decide ((nD:Int)<(s0.length:Int)) then
  ((idx s0 (nD:Int)).bind fun x3=>
  (abr x3 jw).bind fun y5=>
  if y5 then
   (some (nD:Int))
  else
   (bA (nD+1)))
 else
  (ahP ())
def Xx(s0:List aH)(jw:aH):Option Int:=
 iter (Xw s0 jw) FUEL 0
theorem arq(S:bO)(w:World)(s0:List aH)(bX:aC.R (List aH))(kW:Nat)(jw:aH)(y:Int)(hM:Xx s0 jw=some y)(hS:sB S w)(Cj:aC.ok S w bX s0)(Ck:S kW∧w.heap[kW]?=some (.cells (ru jw).toArray 71 (0,0))):
   Calls Tryz.prog 136 #[sL bX s0,.func (.func 80) #[] #[vP kW]] w (dz w (vI y)):=by
 refine cu (args:=[_,_]) Tryz.func136 rfl ((pre_nil hS).start |>.gW (α:=List aH) (r:=bX) (x:=s0) Cj|>.CJ Ck) rfl ?_;unfold Xx at hM;refine bI ?_;refine aK fun K2 hK2=>?_;refine aW ?_;refine mF (fun w hm=>Kn.len (kG s0 bX) hm) fun hl1=>?_;refine oe bL ?_;refine om ?_;refine on ?_;refine bH ?_;refine lq hM (fun nD=>[(0,eS bX s0),(1,.v (.func (.func 80) #[] #[vP kW])),(7,eI (s0.length:Int)),(8,eI (nD:Int))]) (fun nD=>[iL s0 bX,mG kW 71 (ru jw)]) sS rI ?_;clear hM;rintro bA nD hM iG hL1;dsimp only[Xw] at hM ⊢;refine sr ?_;refine oe bY ?_;refine on ?_;refine aK fun K5 dI=>?_;refine cc rfl hM (fun hc2 hM=>?_) (fun hc2 hM=>?_)
 ·have Vu:=of_decide_eq_true hc2;refine aX (dI _ _ ?_);clear dI;refine aK fun K6 dn=>?_;refine bH ?_;refine aW ?_;refine aT ?_;refine aW ?_;refine om ?_;refine om ?_;obtain⟨x3,hx4,hM⟩:=bind_some hM;refine oe (bD (xs:=s0) 5 (kG s0 bX) (iS hx4)) ?_;refine oe (fM (m:=5) (i:=(nD:Int)) (xs:=s0) (y:=x3) (l:=(ru x3)) 0 (kG s0 bX) (fun _=>hx4)) ?_;obtain⟨y5,ug,hM⟩:=bind_some hM;refine bM (XD (vs:=[.agg (Jc x3)]) (cap:=[vP kW]) (fun w hm=>let ⟨S,hs⟩:=hm;apX _ w x3 kW jw y5 ug (bf hs) (Kv hA hs)) ?_);refine on ?_;refine cc rfl hM (fun oJ hM=>?_) (fun oJ hM=>?_)
  · refine aW ?_;refine aT ?_;exact aY (bQ hM)
  refine aX (dn _ _ ?_);clear dn;refine bB ?_;refine oe (eH (hr:=fun _=>by unfold gF;omega)) ?_;refine om ?_;refine bC (hL1 hM sS rI)
 refine dK (hK2 _ _ ?_);clear hK2;dsimp only[ahP] at hM;refine bI ?_;exact aY (bQ hM)
def TY(s0:List aH)(jw:aH):Option Bool:=
 (Xx s0 jw).bind fun y1=>
 some (decide (0≤y1))
theorem arn(S:bO)(w:World)(s0:List aH)(bX:aC.R (List aH))(kW:Nat)(jw:aH)(y:Bool)(hM:TY s0 jw=some y)(hS:sB S w)(Cj:aC.ok S w bX s0)(Ck:S kW∧w.heap[kW]?=some (.cells (ru jw).toArray 71 (0,0))):
  Calls Tryz.prog 79 #[sL bX s0,.func (.func 80) #[] #[vP kW]] w (dz w (.bool y)):=by
 refine cu (args:=[_,_]) Tryz.func79 rfl ((pre_nil hS).start |>.gW (α:=List aH) (r:=bX) (x:=s0) Cj|>.CJ Ck) rfl ?_;unfold TY at hM;refine bI ?_;refine aW ?_;refine om ?_;obtain⟨y1,hy2,hM⟩:=bind_some hM;refine cv (fun hs=>arq _ _ s0 bX kW jw y1 hy2 (bf hs) (kM hs) (Kv hA hs)) ?_;refine oe jK ?_;refine aT ?_;exact aY (bQ hM)
def ahO:Unit→Option Int:=fun _=>
 some (-1)
def Xu(s0:List Line)(jw:Line)(bA:Nat→Option Int):Nat→Option Int:=fun nD=>
 if decide ((nD:Int)<(s0.length:Int)) then
  ((idx s0 (nD:Int)).bind fun x3=>
  (abp x3 jw).bind fun y5=>
  if y5 then
   (some (nD:Int))
  else
   (bA (nD+1)))
 else
  (ahO ())
def Xv(s0:List Line)(jw:Line):Option Int:=
 iter (Xu s0 jw) FUEL 0
theorem arp(S:bO)(w:World)(s0:List Line)(bX:aC.R (List Line))(kW:Nat)(jw:Line)(CF:aC.R Line)(y:Int)(hM:Xv s0 jw=some y)(hS:sB S w)(Cj:aC.ok S w bX s0)(Ck:S kW∧w.heap[kW]?=some (.cells (kZ jw CF).toArray 56 (0,0)))(Zr:aC.ok S w CF jw):
   Calls Tryz.prog 138 #[sL bX s0,.func (.func 84) #[] #[vP kW]] w (dz w (vI y)):=by
 refine cu (args:=[_,_]) Tryz.func138 rfl ((pre_nil hS).start |>.gW (α:=List Line) (r:=bX) (x:=s0) Cj|>.CJ Ck|>.gW (α:=List aM) (r:=CF) (x:=jw.aJ) Zr) rfl ?_;unfold Xv at hM;refine bI ?_;refine aK fun K2 hK2=>?_;refine aW ?_;refine mF (fun w hm=>Kn.len (kG s0 bX) hm) fun hl1=>?_;refine oe bL ?_;refine om ?_;refine on ?_;refine bH ?_;refine lq hM (fun nD=>[(0,eS bX s0),(1,.v (.func (.func 84) #[] #[vP kW])),(7,eI (s0.length:Int)),(8,eI (nD:Int))]) (fun nD=>[iL s0 bX,iL jw.aJ CF,mG kW 56 (kZ jw CF)]) sS rI ?_;clear hM;rintro bA nD hM iG hL1;dsimp only[Xu] at hM ⊢;refine sr ?_;refine oe bY ?_;refine on ?_;refine aK fun K5 dI=>?_;refine cc rfl hM (fun hc2 hM=>?_) (fun hc2 hM=>?_)
 ·have Vu:=of_decide_eq_true hc2;refine aX (dI _ _ ?_);clear dI;refine aK fun K6 dn=>?_;refine bH ?_;refine aW ?_;refine aT ?_;refine aW ?_;refine om ?_;refine om ?_;obtain⟨x3,hx4,hM⟩:=bind_some hM;refine oe (bD (xs:=s0) 4 (kG s0 bX) (iS hx4)) ?_;refine oe (fM (m:=4) (i:=(nD:Int)) (xs:=s0) (y:=x3) (l:=(kZ x3 (bX.es (nD:Int).toNat))) 0 (kG s0 bX) (fun _=>hx4)) ?_;obtain⟨y5,ug,hM⟩:=bind_some hM;refine bM (XD (vs:=[.agg (YE x3 (bX.es (nD:Int).toNat))]) (cap:=[vP kW]) (fun w hm=>let ⟨S,hs⟩:=hm;apS _ w x3 (bX.es (nD:Int).toNat) kW jw CF y5 ug (bf hs) (Kn.lend ((Sk.elem (Sk.dw (α:=List Line) (r:=bX) (x:=s0) hA) hx4)).kn hs) (Kv hA hs) (kM hs)) ?_);refine on ?_;refine cc rfl hM (fun oJ hM=>?_) (fun oJ hM=>?_)
  · refine aW ?_;refine aT ?_;exact aY (bQ hM)
  refine aX (dn _ _ ?_);clear dn;refine bB ?_;refine oe (eH (hr:=fun _=>by unfold gF;omega)) ?_;refine om ?_;refine bC (hL1 hM sS rI)
 refine dK (hK2 _ _ ?_);clear hK2;dsimp only[ahO] at hM;refine bI ?_;exact aY (bQ hM)
def TW(s0:List Line)(jw:Line):Option Bool:=
 (Xv s0 jw).bind fun y1=>
 some (decide (0≤y1))
theorem arl(S:bO)(w:World)(s0:List Line)(bX:aC.R (List Line))(kW:Nat)(jw:Line)(CF:aC.R Line)(y:Bool)(hM:TW s0 jw=some y)(hS:sB S w)(Cj:aC.ok S w bX s0)(Ck:S kW∧w.heap[kW]?=some (.cells (kZ jw CF).toArray 56 (0,0)))(Zr:aC.ok S w CF jw):
  Calls Tryz.prog 83 #[sL bX s0,.func (.func 84) #[] #[vP kW]] w (dz w (.bool y)):=by
 refine cu (args:=[_,_]) Tryz.func83 rfl ((pre_nil hS).start |>.gW (α:=List Line) (r:=bX) (x:=s0) Cj|>.CJ Ck|>.gW (α:=List aM) (r:=CF) (x:=jw.aJ) Zr) rfl ?_;unfold TW at hM;refine bI ?_;refine aW ?_;refine om ?_;obtain⟨y1,hy2,hM⟩:=bind_some hM;refine cv (fun hs=>arp _ _ s0 bX kW jw CF y1 hy2 (bf hs) (kM hs) (Kv hA hs) (kM hs)) ?_;refine oe jK ?_;refine aT ?_;exact aY (bQ hM)
def ahQ:Unit→Option Int:=fun _=>
 some (-1)
def Xy(s0:List Turn)(jw:Turn)(bA:Nat→Option Int):Nat→Option Int:=fun nD=>
 if decide ((nD:Int)<(s0.length:Int)) then
  ((idx s0 (nD:Int)).bind fun x3=>
  (abt x3 jw).bind fun y5=>
  if y5 then
   (some (nD:Int))
  else
   (bA (nD+1)))
 else
  (ahQ ())
def Xz(s0:List Turn)(jw:Turn):Option Int:=
 iter (Xy s0 jw) FUEL 0
theorem ars(S:bO)(w:World)(s0:List Turn)(bX:aC.R (List Turn))(kW:Nat)(jw:Turn)(y:Int)(hM:Xz s0 jw=some y)(hS:sB S w)(Cj:aC.ok S w bX s0)(Ck:S kW∧w.heap[kW]?=some (.cells (vg jw).toArray 94 (0,0))):
   Calls Tryz.prog 140 #[sL bX s0,.func (.func 93) #[] #[vP kW]] w (dz w (vI y)):=by
 refine cu (args:=[_,_]) Tryz.func140 rfl ((pre_nil hS).start |>.gW (α:=List Turn) (r:=bX) (x:=s0) Cj|>.CJ Ck) rfl ?_;unfold Xz at hM;refine bI ?_;refine aK fun K2 hK2=>?_;refine aW ?_;refine mF (fun w hm=>Kn.len (kG s0 bX) hm) fun hl1=>?_;refine oe bL ?_;refine om ?_;refine on ?_;refine bH ?_;refine lq hM (fun nD=>[(0,eS bX s0),(1,.v (.func (.func 93) #[] #[vP kW])),(7,eI (s0.length:Int)),(8,eI (nD:Int))]) (fun nD=>[iL s0 bX,mG kW 94 (vg jw)]) sS rI ?_;clear hM;rintro bA nD hM iG hL1;dsimp only[Xy] at hM ⊢;refine sr ?_;refine oe bY ?_;refine on ?_;refine aK fun K5 dI=>?_;refine cc rfl hM (fun hc2 hM=>?_) (fun hc2 hM=>?_)
 ·have Vu:=of_decide_eq_true hc2;refine aX (dI _ _ ?_);clear dI;refine aK fun K6 dn=>?_;refine bH ?_;refine aW ?_;refine aT ?_;refine aW ?_;refine om ?_;refine om ?_;obtain⟨x3,hx4,hM⟩:=bind_some hM;refine oe (bD (xs:=s0) 4 (kG s0 bX) (iS hx4)) ?_;refine oe (fM (m:=4) (i:=(nD:Int)) (xs:=s0) (y:=x3) (l:=(vg x3)) 0 (kG s0 bX) (fun _=>hx4)) ?_;obtain⟨y5,ug,hM⟩:=bind_some hM;refine bM (XD (vs:=[.agg (adC x3)]) (cap:=[vP kW]) (fun w hm=>let ⟨S,hs⟩:=hm;ap0 _ w x3 kW jw y5 ug (bf hs) (Kv hA hs)) ?_);refine on ?_;refine cc rfl hM (fun oJ hM=>?_) (fun oJ hM=>?_)
  · refine aW ?_;refine aT ?_;exact aY (bQ hM)
  refine aX (dn _ _ ?_);clear dn;refine bB ?_;refine oe (eH (hr:=fun _=>by unfold gF;omega)) ?_;refine om ?_;refine bC (hL1 hM sS rI)
 refine dK (hK2 _ _ ?_);clear hK2;dsimp only[ahQ] at hM;refine bI ?_;exact aY (bQ hM)
def T9(s0:List Turn)(jw:Turn):Option Bool:=
 (Xz s0 jw).bind fun y1=>
 some (decide (0≤y1))
theorem aro(S:bO)(w:World)(s0:List Turn)(bX:aC.R (List Turn))(kW:Nat)(jw:Turn)(y:Bool)(hM:T9 s0 jw=some y)(hS:sB S w)(Cj:aC.ok S w bX s0)(Ck:S kW∧w.heap[kW]?=some (.cells (vg jw).toArray 94 (0,0))):
  Calls Tryz.prog 92 #[sL bX s0,.func (.func 93) #[] #[vP kW]] w (dz w (.bool y)):=by
 refine cu (args:=[_,_]) Tryz.func92 rfl ((pre_nil hS).start |>.gW (α:=List Turn) (r:=bX) (x:=s0) Cj|>.CJ Ck) rfl ?_;unfold T9 at hM;refine bI ?_;refine aW ?_;refine om ?_;obtain⟨y1,hy2,hM⟩:=bind_some hM;refine cv (fun hs=>ars _ _ s0 bX kW jw y1 hy2 (bf hs) (kM hs) (Kv hA hs)) ?_;refine oe jK ?_;refine aT ?_;exact aY (bQ hM)
end Go.Proofs.YtcalibhfgdncaaaGreatDoor

/- Functions: models, proved of the code. -/
import Derived.Test.YtcalibhfgdncaaaGreatDoorOf
namespace Go.Proofs.YtcalibhfgdncaaaGreatDoor
open Go.Dc Go.RowKit
attribute [local irreducible] CW OW AW AZ Ev
set_option maxHeartbeats 0
set_option maxRecDepth 10000
set_option linter.all false
def UU(p0:Int):Option Bool:=
 some (decide (0≤p0)&&decide (p0≤1048576))
theorem aiW(S:aW)(w:World)(p0:Int)(y:Bool)(hM:UU p0=some y)(hS:sB S w):
  Calls Tryz.prog 85 #[vI p0] w (bM w (.bool y)):=by
 refine bF (args:=[_]) Tryz.func85 rfl ((pre_nil hS).start) rfl ?_;unfold UU at hM;refine go ?_;exact aF (aZ hM)
def Mj(p0:Plan)(kU:Int)(hi0:Int):Option Bool:=
 aO (!((decide (0≤kU)&&decide (kU≤hi0))&&decide (hi0≤7200))||aX (kU+p0.bJ))<|
 some (((decide (0≤kU)&&decide (kU≤hi0))&&decide (hi0≤7200))&&decide (hi0<(kU+p0.bJ)))
theorem aey(S:aW)(w:World)(p0:Plan)(av:ah.R Plan)(kU:Int)(hi0:Int)(y:Bool)(hM:Mj p0 kU hi0=some y)(hS:sB S w)(eF:ah.ok S w av p0):
  Calls Tryz.prog 88 #[.agg (jI p0 av),vI kU,vI hi0] w (bM w (.bool y)):=by
 refine bF (args:=[_,_,_]) Tryz.func88 rfl ((pre_nil hS).start |>.jZ eF) rfl ?_;unfold Mj at hM;refine sr ?_;refine oB (kX p0 av) fun b1=>?_;refine go ?_;obtain⟨hI2,hM⟩:=bQ hM;refine bY rfl (dP (hr:=fun hg=>dU (yJ hI2 hg))) ?_;refine go ?_;exact aF (aZ hM)
def Ml(p0:Plan)(i0:Int):Option Bool:=
 some (decide (0≤i0)&&decide (i0<(p0.Lines.length:Int)))
theorem aeD(S:aW)(w:World)(p0:Plan)(av:ah.R Plan)(i0:Int)(y:Bool)(hM:Ml p0 i0=some y)(hS:sB S w)(eF:ah.ok S w av p0):
  Calls Tryz.prog 91 #[.agg (jI p0 av),vI i0] w (bM w (.bool y)):=by
 refine bF (args:=[_,_]) Tryz.func91 rfl ((pre_nil hS).start |>.jZ eF) rfl ?_;unfold Ml at hM;refine sr ?_;refine oB (kX p0 av) fun b1=>?_;refine go ?_;exact aF (aZ hM)
def Jl(p0:Plan)(i0:Int)(k0:Int):Option Bool:=
 (Ml p0 i0).bind fun y2=>
 (dH (y2&&decide (0≤k0)) default (idx p0.Lines i0)).bind fun x4=>
 if (y2&&decide (0≤k0)) then
 (some ((y2&&decide (0≤k0))&&decide (k0<(x4.bD.length:Int))))
 else
 (some false)
theorem Zv(S:aW)(w:World)(p0:Plan)(av:ah.R Plan)(i0:Int)(k0:Int)(y:Bool)(hM:Jl p0 i0 k0=some y)(hS:sB S w)(eF:ah.ok S w av p0):
   Calls Tryz.prog 87 #[.agg (jI p0 av),vI i0,vI k0] w (bM w (.bool y)):=by
 refine bF (args:=[_,_,_]) Tryz.func87 rfl ((pre_nil hS).start |>.jZ eF) rfl ?_;unfold Jl at hM;refine sr ?_;refine oB (kX p0 av) fun b1=>?_;refine go ?_;obtain⟨y2,hy3,hM⟩:=bind_some hM;refine cv (fun hs=>aeD _ _ p0 av i0 y2 hy3 (aM hs) ⟨(kM hs),(kM hs),(kM hs),(kM hs),(kM hs),(kM hs),(kM hs)⟩) ?_;refine go ?_;obtain⟨x4,hx5,hM⟩:=bind_some hM;refine bY rfl (dL 4 (kG p0.Lines av.2.2.1) (fun hg=>let h:=jX (cu hx5 hg);⟨h.1,h.2.1⟩)) ?_;refine bY rfl (aY 3) ?_;refine aiE (y2&&decide (0≤k0)) (fun wz=>?_) (fun wz=>?_)
 ·replace hM:=iT wz hM;have hx7:=cu hx5 wz;refine Cx 15 wz rfl ?_;refine Cx 16 wz rfl ?_;refine Cx 17 wz rfl ?_;refine Cx 18 wz rfl ?_;refine Cx 19 wz rfl ?_;refine Cx 20 wz rfl ?_;refine Mf rfl wz ?_;refine oe (dY 3 (kG p0.Lines av.2.2.1) (fun _=>hx7)) ?_;refine Mf rfl wz ?_;refine oe jq ?_;refine Mf rfl wz ?_;refine go ?_;exact aF (aZ hM)
 replace hM:=iF wz hM;refine Me rfl wz ?_;refine Me rfl wz ?_;refine Me rfl wz ?_;refine oe (Yf wz) ?_;refine aN ?_;exact aF (aZ hM)
def Ms(p0:Plan)(r0:bW):Option Int:=
 (idx p0.Routes r0.aG).bind fun x3=>
 (idx x3.Steps 0).bind fun x5=>
 some x5.Section
theorem aeG(S:aW)(w:World)(p0:Plan)(av:ah.R Plan)(r0:bW)(y:Int)(hM:Ms p0 r0=some y)(hS:sB S w)(eF:ah.ok S w av p0):
  Calls Tryz.prog 90 #[.agg (jI p0 av),.agg (agv r0)] w (bM w (vI y)):=by
 refine bF (args:=[_,_]) Tryz.func90 rfl ((pre_nil hS).start |>.jZ eF) rfl ?_;unfold Ms at hM;refine sr ?_;refine oB (kX p0 av) fun b1=>?_;refine oB (zY r0) fun b2=>?_;refine go ?_;refine ix 2 0 (kG p0.Routes av.2.1) hM fun x3 hx4 hM=>?_;obtain⟨x5,hx6,hM⟩:=bind_some hM;refine oe (dL 2 ((Sk.elem (Sk.dw (α:=List aG) (r:=av.2.1) (x:=p0.Routes) hA) hx4)).kn (iS hx6)) ?_;refine oe (aY 0) ?_;refine oe (dY 0 ((Sk.elem (Sk.dw (α:=List aG) (r:=av.2.1) (x:=p0.Routes) hA) hx4)).kn (fun _=>hx6)) ?_;refine aN ?_;exact aF (aZ hM)
def Mt(p0:Plan)(r0:bW):Option Int:=
 (idx p0.Routes r0.aG).bind fun x3=>
 (idx p0.Routes r0.aG).bind fun x5=>
 aO (aX ((x3.Steps.length:Int)-x5.Overlap))<|
 aO (aX (((x3.Steps.length:Int)-x5.Overlap)-1))<|
 (idx x3.Steps (((x3.Steps.length:Int)-x5.Overlap)-1)).bind fun x9=>
 some x9.Section
theorem aeH(S:aW)(w:World)(p0:Plan)(av:ah.R Plan)(r0:bW)(y:Int)(hM:Mt p0 r0=some y)(hS:sB S w)(eF:ah.ok S w av p0):
  Calls Tryz.prog 89 #[.agg (jI p0 av),.agg (agv r0)] w (bM w (vI y)):=by
 refine bF (args:=[_,_]) Tryz.func89 rfl ((pre_nil hS).start |>.jZ eF) rfl ?_;unfold Mt at hM;refine sr ?_;refine oB (kX p0 av) fun b1=>?_;refine oB (zY r0) fun b2=>?_;refine aN ?_;refine au fun K2 hK2=>?_;refine dS _ (List.Sublist.refl _) ?_;refine fa 0 2 ?_;refine ay 2 rfl (aY 0) ?_;refine ay 3 rfl gZ ?_;refine iQ 4 2 0 (kG p0.Routes av.2.1) hM fun x3 hx4 hM=>?_;refine fa 7 2 ?_;refine fa 9 0 ?_;refine iQ 11 2 1 (kG p0.Routes av.2.1) hM fun x5 hx6 hM=>?_;refine ay 14 rfl eX ?_;refine ay 15 rfl eX ?_;refine bS (hK2 _ _ ?_);refine go ?_;refine oN hM fun hM=>?_;refine oN hM fun hM=>?_;obtain⟨x9,sj,hM⟩:=bind_some hM;refine oe (dL 2 ((Sk.elem (Sk.dw (α:=List aG) (r:=av.2.1) (x:=p0.Routes) hA) hx4)).kn (iS sj)) ?_;refine oe (aY 0) ?_;refine oe (dY 0 ((Sk.elem (Sk.dw (α:=List aG) (r:=av.2.1) (x:=p0.Routes) hA) hx4)).kn (fun _=>sj)) ?_;refine aN ?_;exact aF (aZ hM)
def aeB(t0:aQ)(p0:aQ):Option Bool:=
 some (decide (t0.Name=p0.Name))
theorem atV(S:aW)(w:World)(t0:aQ)(jd:Nat)(p0:aQ)(y:Bool)(hM:aeB t0 p0=some y)(hS:sB S w)(DF:S jd∧w.heap[jd]?=some (.cells (rD p0).toArray 71 (0,0))):
  Calls Tryz.prog 80 #[.agg (FV t0),vP jd] w (bM w (.bool y)):=by
 refine bF (args:=[_,_]) Tryz.func80 rfl ((pre_nil hS).start |>.mJ DF) rfl ?_;unfold aeB at hM;refine sr ?_;refine oB (rD t0) fun b1=>?_;refine go ?_;refine oe (o7 (b:=jd)) ?_;refine oe xI ?_;refine aN ?_;exact aF (aZ hM)
def aez(k0:Line)(p0:Line):Option Bool:=
 some (decide (k0.Name=p0.Name))
theorem atP(S:aW)(w:World)(k0:Line)(MH:ah.R Line)(jd:Nat)(p0:Line)(av:ah.R Line)(y:Bool)(hM:aez k0 p0=some y)(hS:sB S w)(acG:ah.ok S w MH k0)(DF:S jd∧w.heap[jd]?=some (.cells (mH p0 av).toArray 56 (0,0)))(eF:ah.ok S w av p0):
  Calls Tryz.prog 84 #[.agg (KF k0 MH),vP jd] w (bM w (.bool y)):=by
 refine bF (args:=[_,_]) Tryz.func84 rfl ((pre_nil hS).start |>.bG acG|>.mJ DF|>.bG eF) rfl ?_;unfold aez at hM;refine sr ?_;refine oB (mH k0 MH) fun b1=>?_;refine go ?_;refine oe (o7 (b:=jd)) ?_;refine oe xI ?_;refine aN ?_;exact aF (aZ hM)
def aeC(u0:Turn)(p0:Turn):Option Bool:=
 some (decide (u0.From=p0.From)||decide (u0.To=p0.To))
theorem atY(S:aW)(w:World)(u0:Turn)(jd:Nat)(p0:Turn)(y:Bool)(hM:aeC u0 p0=some y)(hS:sB S w)(DF:S jd∧w.heap[jd]?=some (.cells (zZ p0).toArray 94 (0,0))):
  Calls Tryz.prog 93 #[.agg (agw u0),vP jd] w (bM w (.bool y)):=by
 refine bF (args:=[_,_]) Tryz.func93 rfl ((pre_nil hS).start |>.mJ DF) rfl ?_;unfold aeC at hM;refine sr ?_;refine oB (zZ u0) fun b1=>?_;refine go ?_;refine oe (o7 (b:=jd)) ?_;refine go ?_;refine bY rfl (o7 (b:=jd)) ?_;refine go ?_;exact aF (aZ hM)
def akP:Unit→Option Int:=fun _=>
 some (-1)
def aaO(s0:List aQ)(fM:aQ)(aK:Nat→Option Int):Nat→Option Int:=fun fU=>
 if decide ((fU:Int)<(s0.length:Int)) then
  ((idx s0 (fU:Int)).bind fun x3=>
  (aeB x3 fM).bind fun y5=>
  if y5 then
   (some (fU:Int))
  else
   (aK (fU+1)))
 else
  (akP ())
def aaP(s0:List aQ)(fM:aQ):Option Int:=
 iter (aaO s0 fM) FUEL 0
theorem awm(S:aW)(w:World)(s0:List aQ)(dh:ah.R (List aQ))(iY:Nat)(fM:aQ)(y:Int)(hM:aaP s0 fM=some y)(hS:sB S w)(uo:ah.ok S w dh s0)(wu:S iY∧w.heap[iY]?=some (.cells (rD fM).toArray 71 (0,0))):
   Calls Tryz.prog 136 #[sL dh s0,.func (.func 80) #[] #[vP iY]] w (bM w (vI y)):=by
 refine bF (args:=[_,_]) Tryz.func136 rfl ((pre_nil hS).start |>.bG uo|>.mJ wu) rfl ?_;unfold aaP at hM;refine aJ ?_;refine au fun K2 hK2=>?_;refine aR ?_;refine kK (fun w hm=>Kn.len (kG s0 dh) hm) fun hl1=>?_;refine go ?_;refine lk hM [0,1,7] (fun fU=>[(8,eI (fU:Int))]) [] (fun fU=>[]) ?_;clear hM;rintro aK fU hM eO hL1;dsimp only[aaO,cA,nA] at hM ⊢;refine sr ?_;refine oe gq ?_;refine on ?_;refine au fun K5 dx=>?_;refine co hM (fun hc2 hM=>?_) (fun hc2 hM=>?_)
 ·have Le:=of_decide_eq_true hc2;refine cs dx ?_;refine au fun K6 dG=>?_;refine go ?_;refine ixs 5 5 (fun x3=>(rD x3)) (kG s0 dh) hM fun x3 hx4 hM=>?_;obtain⟨y5,jW,hM⟩:=bind_some hM;refine bf (Nc (vs:=[.agg (FV x3)]) (cap:=[vP iY]) (fun w hm=>let ⟨S,hs⟩:=hm;atV _ w x3 iY fM y5 jW (aM hs) (uM hA hs)) ?_);refine oc hM (fun jr hM=>?_) (fun jr hM=>?_)
  · refine aR ?_;refine aN ?_;exact aF (aZ hM)
  refine cs dG ?_;refine bg ?_;refine oe (dP (hr:=fun _=>by unfold gN;omega)) ?_;refine om ?_;refine bq (hL1 hM sS rI)
 refine cx hK2 ?_;dsimp only[akP] at hM;refine aJ ?_;exact aF (aZ hM)
def WI(s0:List aQ)(fM:aQ):Option Bool:=
 (aaP s0 fM).bind fun y1=>
 some (decide (0≤y1))
theorem awg(S:aW)(w:World)(s0:List aQ)(dh:ah.R (List aQ))(iY:Nat)(fM:aQ)(y:Bool)(hM:WI s0 fM=some y)(hS:sB S w)(uo:ah.ok S w dh s0)(wu:S iY∧w.heap[iY]?=some (.cells (rD fM).toArray 71 (0,0))):
  Calls Tryz.prog 79 #[sL dh s0,.func (.func 80) #[] #[vP iY]] w (bM w (.bool y)):=by
 refine bF (args:=[_,_]) Tryz.func79 rfl ((pre_nil hS).start |>.bG uo|>.mJ wu) rfl ?_;unfold WI at hM;refine aJ ?_;refine aR ?_;refine om ?_;obtain⟨y1,hy2,hM⟩:=bind_some hM;refine cv (fun hs=>awm _ _ s0 dh iY fM y1 hy2 (aM hs) (kM hs) (uM hA hs)) ?_;refine oe IE ?_;refine aN ?_;exact aF (aZ hM)
def akM:Unit→Option Int:=fun _=>
 some (-1)
def aaI(s0:List Line)(fM:Line)(aK:Nat→Option Int):Nat→Option Int:=fun fU=>
 if decide ((fU:Int)<(s0.length:Int)) then
  ((idx s0 (fU:Int)).bind fun x3=>
  (aez x3 fM).bind fun y5=>
  if y5 then
   (some (fU:Int))
  else
   (aK (fU+1)))
 else
  (akM ())
def aaJ(s0:List Line)(fM:Line):Option Int:=
 iter (aaI s0 fM) FUEL 0
theorem awj(S:aW)(w:World)(s0:List Line)(dh:ah.R (List Line))(iY:Nat)(fM:Line)(uL:ah.R Line)(y:Int)(hM:aaJ s0 fM=some y)(hS:sB S w)(uo:ah.ok S w dh s0)(wu:S iY∧w.heap[iY]?=some (.cells (mH fM uL).toArray 56 (0,0)))(yL:ah.ok S w uL fM):
   Calls Tryz.prog 138 #[sL dh s0,.func (.func 84) #[] #[vP iY]] w (bM w (vI y)):=by
 refine bF (args:=[_,_]) Tryz.func138 rfl ((pre_nil hS).start |>.bG uo|>.mJ wu|>.bG yL) rfl ?_;unfold aaJ at hM;refine aJ ?_;refine au fun K2 hK2=>?_;refine aR ?_;refine kK (fun w hm=>Kn.len (kG s0 dh) hm) fun hl1=>?_;refine go ?_;refine lk hM [0,1,7] (fun fU=>[(8,eI (fU:Int))]) [] (fun fU=>[]) ?_;clear hM;rintro aK fU hM eO hL1;dsimp only[aaI,cA,nA] at hM ⊢;refine sr ?_;refine oe gq ?_;refine on ?_;refine au fun K5 dx=>?_;refine co hM (fun hc2 hM=>?_) (fun hc2 hM=>?_)
 ·have Le:=of_decide_eq_true hc2;refine cs dx ?_;refine au fun K6 dG=>?_;refine go ?_;refine ixs 4 4 (fun x3=>(mH x3 (dh.es (fU:Int).toNat))) (kG s0 dh) hM fun x3 hx4 hM=>?_;obtain⟨y5,jW,hM⟩:=bind_some hM;refine bf (Nc (vs:=[.agg (KF x3 (dh.es (fU:Int).toNat))]) (cap:=[vP iY]) (fun w hm=>let ⟨S,hs⟩:=hm;atP _ w x3 (dh.es (fU:Int).toNat) iY fM uL y5 jW (aM hs) (Kn.lend ((Sk.elem (Sk.dw (α:=List Line) (r:=dh) (x:=s0) hA) hx4)).kn hs) (uM hA hs) (kM hs)) ?_);refine oc hM (fun jr hM=>?_) (fun jr hM=>?_)
  · refine aR ?_;refine aN ?_;exact aF (aZ hM)
  refine cs dG ?_;refine bg ?_;refine oe (dP (hr:=fun _=>by unfold gN;omega)) ?_;refine om ?_;refine bq (hL1 hM sS rI)
 refine cx hK2 ?_;dsimp only[akM] at hM;refine aJ ?_;exact aF (aZ hM)
def WH(s0:List Line)(fM:Line):Option Bool:=
 (aaJ s0 fM).bind fun y1=>
 some (decide (0≤y1))
theorem awf(S:aW)(w:World)(s0:List Line)(dh:ah.R (List Line))(iY:Nat)(fM:Line)(uL:ah.R Line)(y:Bool)(hM:WH s0 fM=some y)(hS:sB S w)(uo:ah.ok S w dh s0)(wu:S iY∧w.heap[iY]?=some (.cells (mH fM uL).toArray 56 (0,0)))(yL:ah.ok S w uL fM):
  Calls Tryz.prog 83 #[sL dh s0,.func (.func 84) #[] #[vP iY]] w (bM w (.bool y)):=by
 refine bF (args:=[_,_]) Tryz.func83 rfl ((pre_nil hS).start |>.bG uo|>.mJ wu|>.bG yL) rfl ?_;unfold WH at hM;refine aJ ?_;refine aR ?_;refine om ?_;obtain⟨y1,hy2,hM⟩:=bind_some hM;refine cv (fun hs=>awj _ _ s0 dh iY fM uL y1 hy2 (aM hs) (kM hs) (uM hA hs) (kM hs)) ?_;refine oe IE ?_;refine aN ?_;exact aF (aZ hM)
def akR:Unit→Option Int:=fun _=>
 some (-1)
def aaS(s0:List Turn)(fM:Turn)(aK:Nat→Option Int):Nat→Option Int:=fun fU=>
 if decide ((fU:Int)<(s0.length:Int)) then
  ((idx s0 (fU:Int)).bind fun x3=>
  (aeC x3 fM).bind fun y5=>
  if y5 then
   (some (fU:Int))
  else
   (aK (fU+1)))
 else
  (akR ())
def aaT(s0:List Turn)(fM:Turn):Option Int:=
 iter (aaS s0 fM) FUEL 0
theorem awn(S:aW)(w:World)(s0:List Turn)(dh:ah.R (List Turn))(iY:Nat)(fM:Turn)(y:Int)(hM:aaT s0 fM=some y)(hS:sB S w)(uo:ah.ok S w dh s0)(wu:S iY∧w.heap[iY]?=some (.cells (zZ fM).toArray 94 (0,0))):
   Calls Tryz.prog 140 #[sL dh s0,.func (.func 93) #[] #[vP iY]] w (bM w (vI y)):=by
 refine bF (args:=[_,_]) Tryz.func140 rfl ((pre_nil hS).start |>.bG uo|>.mJ wu) rfl ?_;unfold aaT at hM;refine aJ ?_;refine au fun K2 hK2=>?_;refine aR ?_;refine kK (fun w hm=>Kn.len (kG s0 dh) hm) fun hl1=>?_;refine go ?_;refine lk hM [0,1,7] (fun fU=>[(8,eI (fU:Int))]) [] (fun fU=>[]) ?_;clear hM;rintro aK fU hM eO hL1;dsimp only[aaS,cA,nA] at hM ⊢;refine sr ?_;refine oe gq ?_;refine on ?_;refine au fun K5 dx=>?_;refine co hM (fun hc2 hM=>?_) (fun hc2 hM=>?_)
 ·have Le:=of_decide_eq_true hc2;refine cs dx ?_;refine au fun K6 dG=>?_;refine go ?_;refine ixs 4 4 (fun x3=>(zZ x3)) (kG s0 dh) hM fun x3 hx4 hM=>?_;obtain⟨y5,jW,hM⟩:=bind_some hM;refine bf (Nc (vs:=[.agg (agw x3)]) (cap:=[vP iY]) (fun w hm=>let ⟨S,hs⟩:=hm;atY _ w x3 iY fM y5 jW (aM hs) (uM hA hs)) ?_);refine oc hM (fun jr hM=>?_) (fun jr hM=>?_)
  · refine aR ?_;refine aN ?_;exact aF (aZ hM)
  refine cs dG ?_;refine bg ?_;refine oe (dP (hr:=fun _=>by unfold gN;omega)) ?_;refine om ?_;refine bq (hL1 hM sS rI)
 refine cx hK2 ?_;dsimp only[akR] at hM;refine aJ ?_;exact aF (aZ hM)
def WJ(s0:List Turn)(fM:Turn):Option Bool:=
 (aaT s0 fM).bind fun y1=>
 some (decide (0≤y1))
theorem awh(S:aW)(w:World)(s0:List Turn)(dh:ah.R (List Turn))(iY:Nat)(fM:Turn)(y:Bool)(hM:WJ s0 fM=some y)(hS:sB S w)(uo:ah.ok S w dh s0)(wu:S iY∧w.heap[iY]?=some (.cells (zZ fM).toArray 94 (0,0))):
  Calls Tryz.prog 92 #[sL dh s0,.func (.func 93) #[] #[vP iY]] w (bM w (.bool y)):=by
 refine bF (args:=[_,_]) Tryz.func92 rfl ((pre_nil hS).start |>.bG uo|>.mJ wu) rfl ?_;unfold WJ at hM;refine aJ ?_;refine aR ?_;refine om ?_;obtain⟨y1,hy2,hM⟩:=bind_some hM;refine cv (fun hs=>awn _ _ s0 dh iY fM y1 hy2 (aM hs) (kM hs) (uM hA hs)) ?_;refine oe IE ?_;refine aN ?_;exact aF (aZ hM)
end Go.Proofs.YtcalibhfgdncaaaGreatDoor

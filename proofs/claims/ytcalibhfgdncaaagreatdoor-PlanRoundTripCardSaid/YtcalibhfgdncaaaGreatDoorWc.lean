/- Models of functions, and that the code computes them. -/
import Derived.Test.YtcalibhfgdncaaaGreatDoorWa
import Derived.Test.YtcalibhfgdncaaaGreatDoorWIdx
set_option linter.all false
namespace Go.Proofs.YtcalibhfgdncaaaGreatDoor
open Go.Dc Go.RowKit
set_option maxRecDepth 10000
def WS(s0:Str)(pz:Str):Option (Str×Str×Bool):=
 (abz s0 pz).bind fun y1=>
 if decide (0≤y1) then
  ((mo s0 0 y1).bind fun q4=>
  bG (bW (y1+(pz.l.length:Int)))<|
  (mo s0 (y1+(pz.l.length:Int)) (s0.l.length:Int)).bind fun q7=>
  some (q4,q7,true))
 else
  (some (s0,(⟨[]⟩:Str),false))
theorem apU(S:bB)(w:World)(s0:Str)(pz:Str)(y:Str×Str×Bool)(hM:WS s0 pz=some y)(hS:sB S w):
   Calls Tryz.prog 185 #[.string s0.ba,.string pz.ba] w (cu w (.tuple #[.string y.1.ba,.string y.2.1.ba,.bool y.2.2])):=by
 refine bP (args:=[_,_]) Tryz.func185 rfl ((pre_nil hS).start) rfl ?_;unfold WS at hM;refine sr ?_;refine oa ?_;refine oa ?_;refine aP ?_;refine aG fun K2 hK2=>?_;refine aO ?_;refine om ?_;obtain⟨y1,hy2,hM⟩:=bind_some hM;refine cv (fun hs=>apW _ _ s0 pz y1 hy2 (bC hs)) ?_;refine aP ?_;refine aO ?_;refine oe jf ?_;refine on ?_;refine cc rfl hM (fun hc3 hM=>?_) (fun hc3 hM=>?_)
 ·refine aG fun K5 bS=>?_;refine iD _ (List.Sublist.refl _) ?_;refine ay 0 rfl aH ?_;refine ay 1 rfl aH ?_;obtain⟨q4,PL,hM⟩:=bind_some hM;refine ay 2 rfl (Av (ol:=none) (oh:=some (.i64,y1)) (fun _=>PL)) ?_;refine ay 3 rfl aH ?_;refine ay 4 rfl aH ?_;refine ay 5 rfl aH ?_;refine ay 6 rfl mZ ?_;obtain⟨hI6,hM⟩:=dw hM;refine ay 7 rfl (dH (hr:=fun hg=>fH hI6)) ?_;obtain⟨q7,hq8,hM⟩:=bind_some hM;refine ay 8 rfl (Av (ol:=some (.i64,(y1+(pz.l.length:Int)))) (oh:=none) (fun _=>hq8)) ?_;refine ay 9 rfl dx ?_;refine ay 10 rfl dx ?_;refine ay 11 rfl dx ?_;refine dY (bS _ _ ?_);clear bS;exact aW (SF hM)
 refine aX (hK2 _ _ ?_);clear hK2;refine aO ?_;refine oa ?_;refine oa ?_;refine aP ?_;exact aW (SF hM)
def Tj(s0:Str)(pz:Str):Option (Str×Str×Bool):=
 (WS s0 pz).bind fun y1=>
 some (y1.1,y1.2.1,y1.2.2)
theorem apO(S:bB)(w:World)(s0:Str)(pz:Str)(y:Str×Str×Bool)(hM:Tj s0 pz=some y)(hS:sB S w):
  Calls Tryz.prog 153 #[.string s0.ba,.string pz.ba] w (cu w (.tuple #[.string y.1.ba,.string y.2.1.ba,.bool y.2.2])):=by
 refine bP (args:=[_,_]) Tryz.func153 rfl ((pre_nil hS).start) rfl ?_;unfold Tj at hM;refine sr ?_;refine oa ?_;refine oa ?_;refine aP ?_;refine aO ?_;refine om ?_;obtain⟨y1,hy2,hM⟩:=bind_some hM;refine cv (fun hs=>apU _ _ s0 pz y1 hy2 (bC hs)) ?_;refine oe (eO (vs:=[.string y1.1.ba,.string y1.2.1.ba,.bool y1.2.2])) ?_;refine oe (eO (vs:=[.string y1.1.ba,.string y1.2.1.ba,.bool y1.2.2])) ?_;refine oe (eO (vs:=[.string y1.1.ba,.string y1.2.1.ba,.bool y1.2.2])) ?_;refine oa ?_;refine oa ?_;refine aP ?_;exact aW (SF hM)
def N7(dR:List Word)(text0:Str)(CJ:Int)(OY:Int)(rP:Int):Option (List Word):=
 if decide (CJ<0) then
  (some dR)
 else
  ((mo text0 CJ OY).bind fun q2=>
  bG (bW (CJ+1))<|
  bG (decide ((dR.length+([(Word.mk q2 rP (CJ+1))]:List Word).length)*32≤140737488355328))<|
  some (dR++([(Word.mk q2 rP (CJ+1))]:List Word)))
theorem ag9(S:bB)(w:World)(dR:List Word)(mh:ak.R (List Word))(text0:Str)(CJ:Int)(OY:Int)(rP:Int)(y:(List Word))(hM:N7 dR text0 CJ OY rP=some y)(hP:Pre S [ah 108 mh dR] w):
   Calls Tryz.prog 155 #[sL mh dR,.string text0.ba,vI CJ,vI OY,vI rP] w (Post (β:=(ak.R (List Word))) S [ah 108 mh dR] (fun g=>sL g y) (fun g=>[ah 108 g y]) w):=by
 refine bP (args:=[_,_,_,_,_]) Tryz.func155 rfl (hP.start) rfl ?_;unfold N7 at hM;refine bD ?_;refine aG fun K2 hK2=>?_;refine aO ?_;refine oe cO ?_;refine on ?_;refine cc rfl hM (fun hc1 hM=>?_) (fun hc1 hM=>?_)
 ·refine aO ?_;refine aP ?_;obtain rfl:=some_inj hM;refine aW (jE (fun w hm=>dO mh hm rfl))
 refine aX (hK2 _ _ ?_);clear hK2;refine aO ?_;refine om ?_;refine om ?_;refine om ?_;obtain⟨q2,hq3,hM⟩:=bind_some hM;refine oe (Av (ol:=some (.i64,CJ)) (oh:=some (.i64,OY)) (fun _=>hq3)) ?_;refine om ?_;refine om ?_;refine oP hM fun hM=>?_;refine oe (fT [.string q2.ba,vI rP,vI (CJ+1)]) ?_;refine bn (eX (α:=Word) 108 (fun _=>()) ([(Word.mk q2 rP (CJ+1))]:List Word) oF (fun r5=>?_));obtain⟨hb7,hM⟩:=dw hM;refine bn (iP (r:=mh) (r2:=r5) uR (Kn.ah (e:=108) (r:=r5) hA) oF (of_decide_eq_true hb7) (fun r6=>?_));refine aP ?_;obtain rfl:=some_inj hM;refine aW (jE (fun w hm=>dO r6 hm rfl))
def IL(aY:((List Word)×Int×Nat)→Option ((List Word)×Bool))(kL:Nat):((List Word)×Int)→Option ((List Word)×Bool):=fun (zG,Tf)=>
 aY (zG,Tf,kL+1)
def abJ(iZ:List Word)(y1:Str×Str×Bool)(Bq:Int)(rP:Int):Unit→Option ((List Word)×Bool):=fun _=>
 (N7 iZ y1.1 Bq (y1.1.l.length:Int) rP).bind fun yZ=>
 some (yZ,true)
def TS(y1:Str×Str×Bool)(rP:Int)(aY:((List Word)×Int×Nat)→Option ((List Word)×Bool)):((List Word)×Int×Nat)→Option ((List Word)×Bool):=fun (iZ,Bq,kL)=>
 if decide ((kL:Int)<(y1.1.l.length:Int)) then
  ((lX y1.1 (kL:Int)).bind fun c6=>
  (KD c6).bind fun y8=>
  if decide (y8=4) then
   (if decide (Bq<0) then
    (IL aY kL (iZ,(kL:Int)))
   else
    (IL aY kL (iZ,Bq)))
  else
   (if decide (y8=1) then
    ((N7 iZ y1.1 Bq (kL:Int) rP).bind fun y13=>
    IL aY kL (y13,(-1)))
   else
    (some (([]:List Word),false))))
 else
  (abJ iZ y1 Bq rP ())
def TT(text0:Str)(rP:Int):Option ((List Word)×Bool):=
 (Tj text0 (⟨[35]⟩:Str)).bind fun y1=>
 bG (decide ((y1.1.l.length:Int)≤9223372036854775807))<|
 iter (TS y1 rP) FUEL (([]:List Word),(-1),0)
theorem aqh(S:bB)(w:World)(text0:Str)(rP:Int)(y:(List Word)×Bool)(hM:TT text0 rP=some y)(hS:sB S w):
   Calls Tryz.prog 100 #[.string text0.ba,vI rP] w (Post (β:=(ak.R (List Word))) S [] (fun g=> .tuple #[sL g y.1,.bool y.2]) (fun g=>[ah 108 g y.1]) w):=by
 refine bP (args:=[_,_]) Tryz.func100 rfl ((pre_nil hS).start) rfl ?_;unfold TT at hM;refine sr ?_;refine oa ?_;refine aP ?_;refine aO ?_;obtain⟨y1,hy2,hM⟩:=bind_some hM;refine cv (fun hs=>apO _ _ text0 (⟨[35]⟩:Str) y1 hy2 (bC hs)) ?_;refine om ?_;refine oe (eO (vs:=[.string y1.1.ba,.string y1.2.1.ba,.bool y1.2.2])) ?_;refine oe (eO (vs:=[.string y1.1.ba,.string y1.2.1.ba,.bool y1.2.2])) ?_;refine oe (eO (vs:=[.string y1.1.ba,.string y1.2.1.ba,.bool y1.2.2])) ?_;refine aP ?_;refine bD ?_;refine bD ?_;refine aG fun K5 bS=>?_;refine aO ?_;obtain⟨hl3,hM⟩:=dw hM;replace hl3:=of_decide_eq_true hl3;refine oe mZ ?_;refine om ?_;refine on ?_;refine bF ?_;refine bQ (fun w hm=>hm.bV (α:=Word) 108 (fun _=>())) ?_;refine lp GZ hM (fun (iZ,Bq,kL) oG=>[(0,.v (.string y1.1.ba)),(1,eI rP),(6,eS oG iZ),(7,eI Bq),(16,eI (y1.1.l.length:Int)),(17,eI (kL:Int))]) (fun (iZ,Bq,kL) oG=>[ah 108 oG iZ]) sS rI ?_
 clear hM;rintro aY ⟨iZ,Bq,kL⟩ oG hM gu hL1;dsimp only[TS] at hM ⊢;refine sr ?_;refine oe cO ?_;refine on ?_;refine aG fun K8 eZ=>?_;refine cc rfl hM (fun jA hM=>?_) (fun jA hM=>?_)
 ·have adx:=of_decide_eq_true jA;refine aX (eZ _ _ ?_);clear eZ;refine jn (SR (ak.R Word)) y (k:=IL aY kL) (fun (zG,Tf) Cx=>[(0,.v (.string y1.1.ba)),(1,eI rP),(6,eS Cx zG),(7,eI Tf),(16,eI (y1.1.l.length:Int)),(17,eI (kL:Int))]) (fun (zG,Tf) Cx=>[ah 108 Cx zG]) ?_ ?_
  · intro za hJ2;refine bF ?_;refine aO ?_;refine aP ?_;refine aO ?_;refine om ?_;obtain⟨c6,Zc,hM⟩:=bind_some hM;refine oe (qp (fun _=>Zc)) ?_;obtain⟨y8,sW,hM⟩:=bind_some hM;refine cv (fun hs=>aha _ _ c6 y8 sW (bC hs)) ?_;refine on ?_;refine bF ?_;refine sr ?_;refine oe eu ?_;refine aP ?_;refine cc rfl hM (fun uh hM=>?_) (fun uh hM=>?_)
    ·refine aO ?_;refine oe cO ?_;refine on ?_;refine cc rfl hM (fun BR hM=>?_) (fun BR hM=>?_)
     ·refine aZ ?_;refine om ?_;refine oa ?_;refine bf (hJ2 oG hM sS rI)
     refine aX (hJ2 oG hM sS rI)
    refine sr ?_;refine oe eu ?_;refine aP ?_;refine cc rfl hM (fun vX hM=>?_) (fun vX hM=>?_)
    ·refine aO ?_;refine om ?_;refine om ?_;refine om ?_;refine om ?_;obtain⟨y13,xC,hM⟩:=bind_some hM;refine bn (eU sA (fun S w hs hP=>ag9 _ w iZ oG y1.1 Bq (kL:Int) rP y13 xC hP) fK (fun nD=>?_));dsimp only[cA,nA];refine aP ?_;refine aZ ?_;refine oa ?_;refine bf (hJ2 nD hM sS rI)
    refine sr ?_;refine oa ?_;refine aP ?_;refine bQ (fun w hm=>hm.bV (α:=Word) 108 (fun _=>())) ?_;obtain rfl:=some_inj hM;refine aW (qO (fun w hm=>dO GZ hm rfl))
  clear hM;rintro⟨zG,Tf⟩ Cx hM;dsimp only[IL] at hM ⊢;refine aZ ?_;refine oe (dH (hr:=fun _=>by unfold d9;omega)) ?_;refine om ?_;refine bf (hL1 Cx hM sS rI)
 refine dL (bS _ _ ?_);clear bS;dsimp only[abJ] at hM;refine aO ?_;refine om ?_;refine om ?_;refine om ?_;refine oe mZ ?_;refine om ?_;obtain⟨yZ,PX,hM⟩:=bind_some hM;refine bn (eU sA (fun S w hs hP=>ag9 _ w iZ oG y1.1 Bq (y1.1.l.length:Int) rP yZ PX hP) fK (fun uH=>?_));dsimp only[cA,nA];refine oa ?_;refine aP ?_;obtain rfl:=some_inj hM;refine aW (qO (fun w hm=>dO uH hm rfl))
end Go.Proofs.YtcalibhfgdncaaaGreatDoor

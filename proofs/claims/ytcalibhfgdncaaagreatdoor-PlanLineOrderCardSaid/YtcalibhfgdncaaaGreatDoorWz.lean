/- Several parts of the engine, one behind the other. -/
import Derived.Test.YtcalibhfgdncaaaGreatDoorWa
import Derived.Test.YtcalibhfgdncaaaGreatDoorWIdx
namespace Go.Proofs.YtcalibhfgdncaaaGreatDoor
open Go.Dc Go.RowKit
attribute [local irreducible] CW OW AW AZ Ev
set_option maxHeartbeats 0
set_option maxRecDepth 10000
set_option linter.all false
def WS(s0:Str)(rE:Str):Option Bool:=
 (dH (decide ((rE.l.length:Int)≤(s0.l.length:Int))) default (ji s0 0 (rE.l.length:Int))).bind fun q1=>
 some (decide ((rE.l.length:Int)≤(s0.l.length:Int))&&decide (q1=rE))
theorem awN(S:aW)(w:World)(s0:Str)(rE:Str)(y:Bool)(hM:WS s0 rE=some y)(hS:sB S w):
  Calls Tryz.prog 207 #[.string s0.ba,.string rE.ba] w (bM w (.bool y)):=by
 refine bF (args:=[_,_]) Tryz.func207 rfl ((pre_nil hS).start) rfl ?_;unfold WS at hM;refine go ?_;obtain⟨q1,hq2,hM⟩:=bind_some hM;refine bY rfl (vZ (ol:=none) (oh:=some (.i64,(rE.l.length:Int))) (cu hq2)) ?_;refine go ?_;exact aF (aZ hM)
def WR(s0:Str)(rE:Str):Option (Str×Bool):=
 (WS s0 rE).bind fun y1=>
 if (!y1) then
  (some (s0,false))
 else
  ((ji s0 (rE.l.length:Int) (s0.l.length:Int)).bind fun q4=>
  some (q4,true))
theorem awL(S:aW)(w:World)(s0:Str)(rE:Str)(y:Str×Bool)(hM:WR s0 rE=some y)(hS:sB S w):
   Calls Tryz.prog 197 #[.string s0.ba,.string rE.ba] w (bM w (.tuple #[.string y.1.ba,.bool y.2])):=by
 refine bF (args:=[_,_]) Tryz.func197 rfl ((pre_nil hS).start) rfl ?_;unfold WR at hM;refine sr ?_;refine oa ?_;refine aN ?_;refine au fun K2 hK2=>?_;refine aR ?_;refine om ?_;obtain⟨y1,hy2,hM⟩:=bind_some hM;refine cv (fun hs=>awN _ _ s0 rE y1 hy2 (aM hs)) ?_;refine oe iC ?_;refine oc hM (fun hc3 hM=>?_) (fun hc3 hM=>?_)
 ·refine aR ?_;refine oa ?_;refine aN ?_;exact aF (uS hM)
 refine cs hK2 ?_;refine go ?_;obtain⟨q4,SV,hM⟩:=bind_some hM;refine oe (vZ (ol:=some (.i64,(rE.l.length:Int))) (oh:=none) (fun _=>SV)) ?_;refine oa ?_;refine aN ?_;exact aF (uS hM)
def Hf(s0:Str)(rE:Str):Option (Str×Bool):=
 (WR s0 rE).bind fun y1=>
 some (y1.1,y1.2)
theorem awF(S:aW)(w:World)(s0:Str)(rE:Str)(y:Str×Bool)(hM:Hf s0 rE=some y)(hS:sB S w):
  Calls Tryz.prog 186 #[.string s0.ba,.string rE.ba] w (bM w (.tuple #[.string y.1.ba,.bool y.2])):=by
 refine bF (args:=[_,_]) Tryz.func186 rfl ((pre_nil hS).start) rfl ?_;unfold Hf at hM;refine go ?_;obtain⟨y1,hy2,hM⟩:=bind_some hM;refine cv (fun hs=>awL _ _ s0 rE y1 hy2 (aM hs)) ?_;refine oe (bU (vs:=[.string y1.1.ba,.bool y1.2])) ?_;refine oe (bU (vs:=[.string y1.1.ba,.bool y1.2])) ?_;refine oa ?_;refine aN ?_;exact aF (uS hM)
def Xf:Int→Option (Int×Bool):=fun Uq=>
 some (Uq,true)
def afS(y1:Str×Bool)(gB:Int):Unit→Option (Int×Bool):=fun _=>
 if y1.2 then
  (aO (aX (-gB))<|
  Xf (-gB))
 else
  (Xf gB)
def QX(y1:Str×Bool)(aK:(Int×Nat)→Option (Int×Bool)):(Int×Nat)→Option (Int×Bool):=fun (gB,J6)=>
 if decide ((J6:Int)<(y1.1.l.length:Int)) then
  ((kD y1.1 (J6:Int)).bind fun c8=>
  (Nw c8).bind fun iw=>
  if (!iw) then
   (some (0,false))
  else
   (aO (aX (10*gB))<|
   (kD y1.1 (J6:Int)).bind fun c14=>
   aO (aX ((10*gB)+(IntKind.i64.wrap (IntKind.u8.wrap (c14-48)))))<|
   if decide (1099511627776<((10*gB)+(IntKind.i64.wrap (IntKind.u8.wrap (c14-48))))) then
    (some (0,false))
   else
    (aK (((10*gB)+(IntKind.i64.wrap (IntKind.u8.wrap (c14-48)))),J6+1))))
 else
  (afS y1 gB ())
def Hy(s0:Str):Option (Int×Bool):=
 (Hf s0 (⟨[45]⟩:Str)).bind fun y1=>
 (dH (!(decide (y1.1=(⟨[]⟩:Str)))) 0 (kD y1.1 0)).bind fun c3=>
 if (decide (y1.1=(⟨[]⟩:Str))||(decide (c3=48)&&(y1.2||decide (1<(y1.1.l.length:Int))))) then
  (some (0,false))
 else
  (aO (decide ((y1.1.l.length:Int)≤9223372036854775807))<|
  iter (QX y1) FUEL (0,0))
theorem abz(S:aW)(w:World)(s0:Str)(y:Int×Bool)(hM:Hy s0=some y)(hS:sB S w):
   Calls Tryz.prog 156 #[.string s0.ba] w (bM w (.tuple #[vI y.1,.bool y.2])):=by
 refine bF (args:=[_]) Tryz.func156 rfl ((pre_nil hS).start) rfl ?_;unfold Hy at hM;refine go ?_;obtain⟨y1,hy2,hM⟩:=bind_some hM;refine cv (fun hs=>awF _ _ s0 (⟨[45]⟩:Str) y1 hy2 (aM hs)) ?_;refine om ?_;refine oe (bU (vs:=[.string y1.1.ba,.bool y1.2])) ?_;refine oe (bU (vs:=[.string y1.1.ba,.bool y1.2])) ?_;refine oa ?_;refine aN ?_;refine au fun K3 hK3=>?_;refine go ?_;obtain⟨c3,acV,hM⟩:=bind_some hM;refine bY rfl (pV (cu acV)) ?_;refine go ?_;refine co hM (fun iH hM=>?_) (fun iH hM=>?_)
 ·refine sr ?_;refine oa ?_;refine aN ?_;exact aF (uS hM)
 refine cs hK3 ?_;refine aJ ?_;refine au fun K7 gu=>?_;refine aR ?_;obtain⟨SQ,hM⟩:=bQ hM;replace SQ:=of_decide_eq_true SQ;refine go ?_;refine lk hM [4,5,29] (fun (gB,J6)=>[(6,eI gB),(30,eI (J6:Int))]) [] (fun (gB,J6)=>[]) ?_;clear hM;rintro aK ⟨gB,J6⟩ hM eO hL1;dsimp only[QX,cA,nA] at hM ⊢;refine sr ?_;refine oe gq ?_;refine on ?_;refine au fun tC jC=>?_;refine co hM (fun jr hM=>?_) (fun jr hM=>?_)
 ·have ape:=of_decide_eq_true jr;refine cs jC ?_;refine au fun nG gH=>?_;refine bI ?_;refine aR ?_;refine aN ?_;refine au fun zA nR=>?_;refine aR ?_;refine om ?_;obtain⟨c8,SL,hM⟩:=bind_some hM;refine oe (pV (fun _=>SL)) ?_;obtain⟨iw,su,hM⟩:=bind_some hM;refine cv (fun hs=>aly _ _ c8 iw su (aM hs)) ?_;refine oe iC ?_;refine oc hM (fun mP hM=>?_) (fun mP hM=>?_)
  · refine sr ?_;refine oa ?_;refine aN ?_;exact aF (uS hM)
  refine cs nR ?_;refine aR ?_;obtain⟨acr,hM⟩:=bQ hM;refine oe (vw (hr:=fun hg=>dU acr)) ?_;refine om ?_;refine om ?_;obtain⟨c14,apk,hM⟩:=bind_some hM;refine oe (pV (fun _=>apk)) ?_;refine oe aha ?_;refine oe (IC .i64) ?_;refine oP hM fun hM=>?_;refine go ?_;refine co hM (fun hc17 hM=>?_) (fun hc17 hM=>?_)
  · refine sr ?_;refine oa ?_;refine aN ?_;exact aF (uS hM)
  refine cs gH ?_;refine bg ?_;refine oe (dP (hr:=fun _=>by unfold gN;omega)) ?_;refine om ?_;refine bq (hL1 hM sS rI)
 refine cx gu ?_;dsimp only[afS] at hM;refine jl y (k:=Xf) [] (fun Uq=>[(6,eI Uq)]) [] (fun Uq=>[]) ?_ ?_
 ·intro zB hJ2;refine aR ?_;refine oc hM (fun hc18 hM=>?_) (fun hc18 hM=>?_)
  · refine bg ?_;refine om ?_;obtain⟨acv,hM⟩:=bQ hM;refine oe (Yj (hr:=fun hg=>dU acv)) ?_;refine oa ?_;refine bq (hJ2 hM sS rI)
  refine gG (hJ2 hM sS rI)
 clear hM;rintro Uq hM;dsimp only[Xf,cA,nA] at hM ⊢;refine aR ?_;refine oa ?_;refine aN ?_;exact aF (uS hM)
end Go.Proofs.YtcalibhfgdncaaaGreatDoor
namespace Go.Proofs.YtcalibhfgdncaaaGreatDoor
open Go.Dc Go.RowKit
attribute [local irreducible] CW OW AW AZ Ev
set_option maxHeartbeats 0
set_option maxRecDepth 10000
set_option linter.all false
def aa1(s0:Str)(qh:Str):Option (Str×Str×Bool):=
 (afK s0 qh).bind fun y1=>
 if decide (0≤y1) then
  ((ji s0 0 y1).bind fun q4=>
  aO (aX (y1+(qh.l.length:Int)))<|
  (ji s0 (y1+(qh.l.length:Int)) (s0.l.length:Int)).bind fun q7=>
  some (q4,q7,true))
 else
  (some (s0,(⟨[]⟩:Str),false))
theorem awM(S:aW)(w:World)(s0:Str)(qh:Str)(y:Str×Str×Bool)(hM:aa1 s0 qh=some y)(hS:sB S w):
   Calls Tryz.prog 185 #[.string s0.ba,.string qh.ba] w (bM w (.tuple #[.string y.1.ba,.string y.2.1.ba,.bool y.2.2])):=by
 refine bF (args:=[_,_]) Tryz.func185 rfl ((pre_nil hS).start) rfl ?_;unfold aa1 at hM;refine go ?_;refine au fun K2 hK2=>?_;refine aR ?_;refine om ?_;obtain⟨y1,hy2,hM⟩:=bind_some hM;refine cv (fun hs=>awO _ _ s0 qh y1 hy2 (aM hs)) ?_;refine go ?_;refine co hM (fun hc3 hM=>?_) (fun hc3 hM=>?_)
 ·refine au fun K5 dx=>?_;refine dS _ (List.Sublist.refl _) ?_;refine am 0 ?_;refine am 1 ?_;obtain⟨q4,SV,hM⟩:=bind_some hM;refine ay 2 rfl (vZ (ol:=none) (oh:=some (.i64,y1)) (fun _=>SV)) ?_;refine am 3 ?_;refine am 4 ?_;refine am 5 ?_;refine ay 6 rfl R6 ?_;obtain⟨hI6,hM⟩:=bQ hM;refine ay 7 rfl (dP (hr:=fun hg=>dU hI6)) ?_;obtain⟨q7,hq8,hM⟩:=bind_some hM;refine ay 8 rfl (vZ (ol:=some (.i64,(y1+(qh.l.length:Int)))) (oh:=none) (fun _=>hq8)) ?_;refine ay 9 rfl eX ?_;refine ay 10 rfl eX ?_;refine ay 11 rfl eX ?_;refine bS (dx _ _ ?_);exact aF (JO hM)
 refine cs hK2 ?_;refine go ?_;exact aF (JO hM)
def WQ(s0:Str)(qh:Str):Option (Str×Str×Bool):=
 (aa1 s0 qh).bind fun y1=>
 some (y1.1,y1.2.1,y1.2.2)
theorem awG(S:aW)(w:World)(s0:Str)(qh:Str)(y:Str×Str×Bool)(hM:WQ s0 qh=some y)(hS:sB S w):
  Calls Tryz.prog 153 #[.string s0.ba,.string qh.ba] w (bM w (.tuple #[.string y.1.ba,.string y.2.1.ba,.bool y.2.2])):=by
 refine bF (args:=[_,_]) Tryz.func153 rfl ((pre_nil hS).start) rfl ?_;unfold WQ at hM;refine go ?_;obtain⟨y1,hy2,hM⟩:=bind_some hM;refine cv (fun hs=>awM _ _ s0 qh y1 hy2 (aM hs)) ?_;refine oe (bU (vs:=[.string y1.1.ba,.string y1.2.1.ba,.bool y1.2.2])) ?_;refine oe (bU (vs:=[.string y1.1.ba,.string y1.2.1.ba,.bool y1.2.2])) ?_;refine oe (bU (vs:=[.string y1.1.ba,.string y1.2.1.ba,.bool y1.2.2])) ?_;refine oa ?_;refine oa ?_;refine aN ?_;exact aF (JO hM)
def QY(eD:List Word)(text0:Str)(Eu:Int)(RX:Int)(uI:Int):Option (List Word):=
 if decide (Eu<0) then
  (some eD)
 else
  ((ji text0 Eu RX).bind fun q2=>
  aO (aX (Eu+1))<|
  aO (decide ((eD.length+([(Word.mk q2 uI (Eu+1))]:List Word).length)*32≤140737488355328))<|
  some (eD++([(Word.mk q2 uI (Eu+1))]:List Word)))
theorem alx(S:aW)(w:World)(eD:List Word)(qO:ah.R (List Word))(text0:Str)(Eu:Int)(RX:Int)(uI:Int)(y:(List Word))(hM:QY eD text0 Eu RX uI=some y)(hP:Pre S [aj 108 qO eD] w):
   Calls Tryz.prog 155 #[sL qO eD,.string text0.ba,vI Eu,vI RX,vI uI] w (Post (β:=(ah.R (List Word))) S [aj 108 qO eD] (fun g=>sL g y) (fun g=>[aj 108 g y]) w):=by
 refine bF (args:=[_,_,_,_,_]) Tryz.func155 rfl (hP.start) rfl ?_;unfold QY at hM;refine aJ ?_;refine au fun K2 hK2=>?_;refine aR ?_;refine oe gq ?_;refine oc hM (fun hc1 hM=>?_) (fun hc1 hM=>?_)
 ·refine aR ?_;refine aN ?_;obtain rfl:=some_inj hM;refine aF (eG (fun w hm=>bR qO hm rfl))
 refine cs hK2 ?_;refine go ?_;obtain⟨q2,hq3,hM⟩:=bind_some hM;refine oe (vZ (ol:=some (.i64,Eu)) (oh:=some (.i64,RX)) (fun _=>hq3)) ?_;refine om ?_;refine om ?_;refine oP hM fun hM=>?_;refine oe (dO [.string q2.ba,vI uI,vI (Eu+1)]) ?_;refine bf (fI (α:=Word) 108 (fun _=>()) ([(Word.mk q2 uI (Eu+1))]:List Word) oF (fun r5=>?_));obtain⟨hb7,hM⟩:=bQ hM;refine bf (iq (r:=qO) (r2:=r5) uR (Kn.aj (e:=108) (r:=r5) hA) oF (of_decide_eq_true hb7) (fun r6=>?_));refine aN ?_;obtain rfl:=some_inj hM;refine aF (eG (fun w hm=>bR r6 hm rfl))
def Kk(aK:((List Word)×Int×Nat)→Option ((List Word)×Bool))(mU:Nat):((List Word)×Int)→Option ((List Word)×Bool):=fun (OO,WO)=>
 aK (OO,WO,mU+1)
def afT(Bb:List Word)(y1:Str×Str×Bool)(Di:Int)(uI:Int):Unit→Option ((List Word)×Bool):=fun _=>
 (QY Bb y1.1 Di (y1.1.l.length:Int) uI).bind fun mD=>
 some (mD,true)
def Xj(y1:Str×Str×Bool)(uI:Int)(aK:((List Word)×Int×Nat)→Option ((List Word)×Bool)):((List Word)×Int×Nat)→Option ((List Word)×Bool):=fun (Bb,Di,mU)=>
 if decide ((mU:Int)<(y1.1.l.length:Int)) then
  ((kD y1.1 (mU:Int)).bind fun c6=>
  (Xh c6).bind fun y8=>
  if decide (y8=4) then
   (if decide (Di<0) then
    (Kk aK mU (Bb,(mU:Int)))
   else
    (Kk aK mU (Bb,Di)))
  else
   (if decide (y8=1) then
    ((QY Bb y1.1 Di (mU:Int) uI).bind fun y13=>
    Kk aK mU (y13,(-1)))
   else
    (some (([]:List Word),false))))
 else
  (afT Bb y1 Di uI ())
def Xk(text0:Str)(uI:Int):Option ((List Word)×Bool):=
 (WQ text0 (⟨[35]⟩:Str)).bind fun y1=>
 aO (decide ((y1.1.l.length:Int)≤9223372036854775807))<|
 iter (Xj y1 uI) FUEL (([]:List Word),(-1),0)
theorem aw3(S:aW)(w:World)(text0:Str)(uI:Int)(y:(List Word)×Bool)(hM:Xk text0 uI=some y)(hS:sB S w):
   Calls Tryz.prog 100 #[.string text0.ba,vI uI] w (Post (β:=(ah.R (List Word))) S [] (fun g=> .tuple #[sL g y.1,.bool y.2]) (fun g=>[aj 108 g y.1]) w):=by
 refine bF (args:=[_,_]) Tryz.func100 rfl ((pre_nil hS).start) rfl ?_;unfold Xk at hM;refine go ?_;obtain⟨y1,hy2,hM⟩:=bind_some hM;refine cv (fun hs=>awG _ _ text0 (⟨[35]⟩:Str) y1 hy2 (aM hs)) ?_;refine om ?_;refine oe (bU (vs:=[.string y1.1.ba,.string y1.2.1.ba,.bool y1.2.2])) ?_;refine oe (bU (vs:=[.string y1.1.ba,.string y1.2.1.ba,.bool y1.2.2])) ?_;refine oe (bU (vs:=[.string y1.1.ba,.string y1.2.1.ba,.bool y1.2.2])) ?_;refine aN ?_;refine aJ ?_;refine aJ ?_;refine au fun K5 dx=>?_;refine aR ?_;obtain⟨hl3,hM⟩:=bQ hM;replace hl3:=of_decide_eq_true hl3;refine go ?_;refine rn Word 108 (fun _=>()) ?_;refine lr Je hM [0,1,16] (fun (Bb,Di,mU) JK=>[(6,eS JK Bb),(7,eI Di),(17,eI (mU:Int))]) [0] (fun (Bb,Di,mU) JK=>[aj 108 JK Bb]) ?_;clear hM;rintro aK ⟨Bb,Di,mU⟩ JK hM eO hL1;dsimp only[Xj,cA,nA] at hM ⊢;refine sr ?_;refine oe gq ?_;refine on ?_;refine au fun K8 gP=>?_;refine co hM (fun iH hM=>?_) (fun iH hM=>?_)
 ·have ao8:=of_decide_eq_true iH;refine cs gP ?_;refine jk (SR (ah.R Word)) y (k:=Kk aK mU) [0,1,16,17] (fun (OO,WO) Wn=>[(6,eS Wn OO),(7,eI WO)]) [0] (fun (OO,WO) Wn=>[aj 108 Wn OO]) ?_ ?_
  · intro zB hJ2;refine go ?_;obtain⟨c6,SK,hM⟩:=bind_some hM;refine oe (pV (fun _=>SK)) ?_;obtain⟨y8,nT,hM⟩:=bind_some hM;refine cv (fun hs=>aw2 _ _ c6 y8 nT (aM hs)) ?_;refine go ?_;refine co hM (fun tH hM=>?_) (fun tH hM=>?_)
    ·refine aR ?_;refine oe gq ?_;refine oc hM (fun rY hM=>?_) (fun rY hM=>?_)
     ·refine bg ?_;refine om ?_;refine oa ?_;refine bq (hJ2 JK hM sS rI)
     refine gG (hJ2 JK hM sS rI)
    refine sr ?_;refine oe oK ?_;refine aN ?_;refine co hM (fun mP hM=>?_) (fun mP hM=>?_)
    ·refine go ?_;obtain⟨y13,qK,hM⟩:=bind_some hM;refine bf (fu sA (fun S w hs hP=>alx _ w Bb JK y1.1 Di (mU:Int) uI y13 qK hP) fG (fun mI=>?_));dsimp only[cA,nA];refine aN ?_;refine bg ?_;refine oa ?_;refine bq (hJ2 mI hM sS rI)
    refine sr ?_;refine oa ?_;refine aN ?_;refine rn Word 108 (fun _=>()) ?_;obtain rfl:=some_inj hM;refine aF (qZ (fun w hm=>bR Je hm rfl))
  clear hM;rintro⟨OO,WO⟩ Wn hM;dsimp only[Kk,cA,nA] at hM ⊢;refine bg ?_;refine oe (dP (hr:=fun _=>by unfold gN;omega)) ?_;refine om ?_;refine bq (hL1 Wn hM sS rI)
 refine cx dx ?_;dsimp only[afT] at hM;refine go ?_;obtain⟨mD,DR,hM⟩:=bind_some hM;refine bf (fu sA (fun S w hs hP=>alx _ w Bb JK y1.1 Di (y1.1.l.length:Int) uI mD DR hP) fG (fun rF=>?_));dsimp only[cA,nA];refine oa ?_;refine aN ?_;obtain rfl:=some_inj hM;refine aF (qZ (fun w hm=>bR rF hm rfl))
end Go.Proofs.YtcalibhfgdncaaaGreatDoor

/- Functions: models, proved of the code. -/
import Derived.Test.YtcalibhfgdncaaaGreatDoorRe
namespace Go.Proofs.YtcalibhfgdncaaaGreatDoor
open Go.Dc Go.RowKit
attribute [local irreducible] CW OW AW AZ Ev
set_option maxHeartbeats 0
set_option maxRecDepth 10000
set_option linter.all false
def RU(s0:aQ):Option Bool:=
 some (((((((decide (1≤s0.Length)&&decide (s0.Length≤40))&&decide (1000≤s0.qV))&&decide (s0.qV≤100000))&&decide (100≤s0.qQ))&&decide (s0.qQ≤2000))&&decide (100≤s0.qR))&&decide (s0.qR≤2000))
theorem ag1(S:aW)(w:World)(s0:aQ)(y:Bool)(hM:RU s0=some y)(hS:sB S w):
  Calls Tryz.prog 81 #[.agg (FV s0)] w (bM w (.bool y)):=by
 refine bF (args:=[_]) Tryz.func81 rfl ((pre_nil hS).start) rfl ?_;unfold RU at hM;refine sr ?_;refine oB (rD s0) fun b1=>?_;refine go ?_;exact aF (aZ hM)
def RD(r0:aG):Option (List Step):=
 aO (aX ((r0.Steps.length:Int)-r0.Overlap))<|
 (sub r0.Steps 0 ((r0.Steps.length:Int)-r0.Overlap)).bind fun l3=>
 some l3
theorem amA(S:aW)(w:World)(r0:aG)(ak:ah.R aG)(y:(List Step))(hM:RD r0=some y)(hS:sB S w)(oL:ah.ok S w ak r0):
  Calls Tryz.prog 194 #[.agg (xC r0 ak)] w (Post (β:=(ah.R (List Step))) S [] (fun g=>sL g y) (fun g=>[iL y g]) w):=by
 refine bF (args:=[_]) Tryz.func194 rfl ((pre_nil hS).start |>.bG oL) rfl ?_;unfold RD at hM;refine sr ?_;refine oB (nV r0 ak) fun b1=>?_;refine go ?_;refine oN hM fun hM=>?_;obtain⟨l3,hl4,hM⟩:=bind_some hM;refine bf (J3 (r:=ak) (xs:=r0.Steps) (ol:=none) (oh:=some (.i64,((r0.Steps.length:Int)-r0.Overlap))) (Sk.dw (α:=List Step) (r:=ak) (x:=r0.Steps) hA) hl4 (fun r5=>?_));refine aN ?_;obtain rfl:=some_inj hM;refine aF (eG (fun w hm=>bR r5 hm rfl))
def agI(y5:(List Cell)×Int×Int):Unit→Option (uY×Int):=fun _=>
 some ((uY.mk y5.1 y5.2.1),0)
def RB(eZ:(List Step))(l0:Layout)(s0:aQ)(y5:(List Cell)×Int×Int)(aK:Nat→Option (uY×Int)):Nat→Option (uY×Int):=fun Nk=>
 if decide ((Nk:Int)<(eZ.length:Int)) then
  ((idx eZ (Nk:Int)).bind fun x20=>
  (idx l0.Sections x20.Section).bind fun x23=>
  if decide (x23.Length<(if s0.Length>2 then s0.Length else 2)) then
   (some ((uY.mk ([]:List Cell) 0),12))
  else
   (aK (Nk+1)))
 else
  (agI y5 ())
def X0(l0:Layout)(r0:aG)(s0:aQ):Option (uY×Int):=
 (Wq l0 r0).bind fun y5=>
 if decide (y5.2.2≠0) then
  (some ((uY.mk ([]:List Cell) 0),y5.2.2))
 else
  ((RU s0).bind fun iw=>
  if (!iw) then
   (some ((uY.mk ([]:List Cell) 0),1))
  else
   ((RD r0).bind fun eZ=>
   iter (RB eZ l0 s0 y5) FUEL 0))
theorem amy(S:aW)(w:World)(l0:Layout)(aD:ah.R Layout)(r0:aG)(ak:ah.R aG)(s0:aQ)(y:uY×Int)(hM:X0 l0 r0 s0=some y)(hS:sB S w)(dQ:ah.ok S w aD l0)(oL:ah.ok S w ak r0):
   Calls Tryz.prog 176 #[.agg (jy l0 aD),.agg (xC r0 ak),.agg (FV s0)] w (Post (β:=(ah.R uY)) S [] (fun g=> .tuple #[.agg (abL y.1 g),vI y.2]) (fun g=>[aj 254 g y.1.cells]) w):=by
 refine bF (args:=[_,_,_]) Tryz.func176 rfl ((pre_nil hS).start |>.je dQ|>.bG oL) rfl ?_;unfold X0 at hM;refine sr ?_;refine oB (iR l0 aD) fun b1=>?_;refine oB (nV r0 ak) fun b2=>?_;refine oB (rD s0) fun b3=>?_;refine oA rfl fun b4=>?_;refine go ?_;obtain⟨y5,jW,hM⟩:=bind_some hM;refine bf (fu iO.nil (fun S w hs hP=>avn _ w l0 aD r0 ak y5 jW (aM hs) ⟨(kM hs),(kM hs),(kM hs),(kM hs)⟩ (kM hs)) fG (fun r7=>?_));dsimp only[cA,nA];refine om ?_;refine oe (bU (vs:=[sL r7 y5.1,vI y5.2.1,vI y5.2.2])) ?_;refine oe (bU (vs:=[sL r7 y5.1,vI y5.2.1,vI y5.2.2])) ?_;refine oe (bU (vs:=[sL r7 y5.1,vI y5.2.1,vI y5.2.2])) ?_;refine oa ?_;refine oa ?_;refine aN ?_;refine au fun K3 hK3=>?_;refine aR ?_;refine oe nQ ?_;refine oc hM (fun hc8 hM=>?_) (fun hc8 hM=>?_)
 ·refine sr ?_;refine oe (dO [z0,vI 0]) ?_;refine om ?_;refine oS b4 [z0,vI 0] ?_;refine aN ?_;refine rn Cell 254 (fun _=>()) ?_;obtain rfl:=some_inj hM;refine aF (qZ (fun w hm=>bR Gy hm rfl))
 refine cs hK3 ?_;refine au fun K6 dG=>?_;refine sr ?_;refine oe fC ?_;obtain⟨iw,su,hM⟩:=bind_some hM;refine cv (fun hs=>ag1 _ _ s0 iw su (aM hs)) ?_;refine oe iC ?_;refine oc hM (fun mP hM=>?_) (fun mP hM=>?_)
 ·refine sr ?_;refine oe (dO [z0,vI 0]) ?_;refine oS b4 [z0,vI 0] ?_;refine aN ?_;refine rn Cell 254 (fun _=>()) ?_;obtain rfl:=some_inj hM;refine aF (qZ (fun w hm=>bR Gy hm rfl))
 refine cs dG ?_;refine au fun K9 fH=>?_;refine sr ?_;refine oe fC ?_;obtain⟨eZ,uz,hM⟩:=bind_some hM;refine bf (eH iO.nil (fun S w hs hP=>amA _ w r0 ak eZ uz hs.lt (kI hs)) (fun r16=>?_));dsimp only[cA,nA];refine kK (fun w hm=>Kn.len (kG eZ r16) hm) fun axt=>?_;refine go ?_;refine rn Cell 254 (fun _=>()) ?_;refine lk hM [3,5,6,8,9,29,30] (fun Nk=>[(31,eI (Nk:Int))]) [5,1] (fun Nk=>[]) ?_;clear hM;rintro aK Nk hM eO hL1;dsimp only[RB,cA,nA] at hM ⊢;refine sr ?_;refine oe gq ?_;refine on ?_;refine au fun BZ pX=>?_;refine co hM (fun hc19 hM=>?_) (fun hc19 hM=>?_)
 ·have axh:=of_decide_eq_true hc19;refine cs pX ?_;refine au fun zA nR=>?_;refine bI ?_;refine sr ?_;refine ixs 2 2 (fun x20=>(qd x20)) (kG eZ r16) hM fun x20 DJ hM=>?_;refine oA rfl fun b22=>?_;refine oS b22 (qd x20) ?_;refine on ?_;refine au fun Dn qF=>?_;refine dS _ (List.Sublist.refl _) ?_;refine fa 0 2 ?_;refine fa 2 0 ?_;refine iQ 4 5 1 (kG l0.Sections aD.2.2.1) hM fun x23 hx24 hM=>?_;refine fa 7 1 ?_;refine ay 9 rfl ag8 ?_;refine ay 10 rfl gq ?_;refine bS (qF _ _ ?_);refine co hM (fun hc25 hM=>?_) (fun hc25 hM=>?_)
  · refine sr ?_;refine oe (dO [z0,vI 0]) ?_;refine oS b4 [z0,vI 0] ?_;refine aN ?_;refine rn Cell 254 (fun _=>()) ?_;obtain rfl:=some_inj hM;refine aF (qZ (fun w hm=>bR Gy hm rfl))
  refine cs nR ?_;refine bg ?_;refine oe (dP (hr:=fun _=>by unfold gN;omega)) ?_;refine om ?_;refine bq (hL1 hM sS rI)
 refine cx fH ?_;dsimp only[agI] at hM;refine aR ?_;refine om ?_;refine oe (dO [sL r7 y5.1,vI y5.2.1]) ?_;refine oS b4 [sL r7 y5.1,vI y5.2.1] ?_;refine aN ?_;obtain rfl:=some_inj hM;refine aF (qZ (fun w hm=>bR r7 hm rfl))
def RA(l0:Layout)(r0:aG)(s0:aQ):Option Int:=
 (X0 l0 r0 s0).bind fun y4=>
 some y4.2
theorem amx(S:aW)(w:World)(l0:Layout)(aD:ah.R Layout)(r0:aG)(ak:ah.R aG)(s0:aQ)(y:Int)(hM:RA l0 r0 s0=some y)(hS:sB S w)(dQ:ah.ok S w aD l0)(oL:ah.ok S w ak r0):
  Calls Tryz.prog 139 #[.agg (jy l0 aD),.agg (xC r0 ak),.agg (FV s0)] w (bM w (vI y)):=by
 refine bF (args:=[_,_,_]) Tryz.func139 rfl ((pre_nil hS).start |>.je dQ|>.bG oL) rfl ?_;unfold RA at hM;refine sr ?_;refine oB (iR l0 aD) fun b1=>?_;refine oB (nV r0 ak) fun b2=>?_;refine oB (rD s0) fun b3=>?_;refine go ?_;obtain⟨y4,sw,hM⟩:=bind_some hM;refine bf (fu iO.nil (fun S w hs hP=>amy _ w l0 aD r0 ak s0 y4 sw (aM hs) ⟨(kM hs),(kM hs),(kM hs),(kM hs)⟩ (kM hs)) fG (fun r6=>?_));dsimp only[cA,nA];refine om ?_;refine oe (bU (vs:=[.agg (abL y4.1 r6),vI y4.2])) ?_;refine oe (bU (vs:=[.agg (abL y4.1 r6),vI y4.2])) ?_;refine oA rfl fun b7=>?_;refine oS b7 (aiz y4.1 r6) ?_;refine aN ?_;refine aR ?_;refine aN ?_;exact aF (aZ hM)
end Go.Proofs.YtcalibhfgdncaaaGreatDoor

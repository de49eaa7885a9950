/- Models of functions, and that the code computes them. -/
import Derived.Test.YtcalibhfgdncaaaGreatDoorRe
set_option linter.all false
namespace Go.Proofs.YtcalibhfgdncaaaGreatDoor
open Go.Dc Go.RowKit
set_option maxRecDepth 10000
def PY(s0:aH):Option Bool:=
 some (((((((decide (1≤s0.Length)&&decide (s0.Length≤40))&&decide (1000≤s0.qB))&&decide (s0.qB≤100000))&&decide (100≤s0.qy))&&decide (s0.qy≤2000))&&decide (100≤s0.qz))&&decide (s0.qz≤2000))
theorem adY(S:bO)(w:World)(s0:aH)(y:Bool)(hM:PY s0=some y)(hS:sB S w):
  Calls Tryz.prog 81 #[.agg (Jc s0)] w (dz w (.bool y)):=by
 refine cu (args:=[_]) Tryz.func81 rfl ((pre_nil hS).start) rfl ?_;unfold PY at hM;refine sr ?_;refine oB (ru s0) fun b1=>?_;refine aT ?_;refine sr ?_;refine oe (av 1) ?_;refine oe (aF (b:=b1)) ?_;refine oe jK ?_;refine om ?_;refine aD rfl (av 1) ?_;refine aD rfl (aF (b:=b1)) ?_;refine aD rfl oI ?_;refine oe dG ?_;refine om ?_;refine aD rfl (av 2) ?_;refine aD rfl (aF (b:=b1)) ?_;refine aD rfl jK ?_;refine oe dG ?_;refine om ?_;refine aD rfl (av 2) ?_;refine aD rfl (aF (b:=b1)) ?_;refine aD rfl oI ?_;refine oe dG ?_;refine om ?_;refine aD rfl (av 3) ?_;refine aD rfl (aF (b:=b1)) ?_;refine aD rfl jK ?_;refine oe dG ?_;refine om ?_;refine aD rfl (av 3) ?_;refine aD rfl (aF (b:=b1)) ?_;refine aD rfl oI ?_;refine oe dG ?_;refine om ?_;refine aD rfl (av 4) ?_;refine aD rfl (aF (b:=b1)) ?_;refine aD rfl jK ?_;refine oe dG ?_;refine om ?_;refine aD rfl (av 4) ?_;refine aD rfl (aF (b:=b1)) ?_
 refine aD rfl oI ?_;refine oe dG ?_;refine aT ?_;exact aY (bQ hM)
def PN(r0:aO):Option (List Step):=
 bq (bJ ((r0.Steps.length:Int)-r0.Overlap))<|
 (sub r0.Steps 0 ((r0.Steps.length:Int)-r0.Overlap)).bind fun l3=>
 some l3
theorem ai4(S:bO)(w:World)(r0:aO)(bS:aC.R aO)(y:(List Step))(hM:PN r0=some y)(hS:sB S w)(qg:aC.ok S w bS r0):
  Calls Tryz.prog 194 #[.agg (xH r0 bS)] w (Post (β:=(aC.R (List Step))) S [] (fun g=>sL g y) (fun g=>[iL y g]) w):=by
 refine cu (args:=[_]) Tryz.func194 rfl ((pre_nil hS).start |>.gW (α:=List Step) (r:=bS) (x:=r0.Steps) qg) rfl ?_;unfold PN at hM;refine sr ?_;refine oB (jC r0 bS) fun b1=>?_;refine aT ?_;refine sr ?_;refine oe (av 0) ?_;refine oe (aF (b:=b1)) ?_;refine oe (av 0) ?_;refine oe (aF (b:=b1)) ?_;refine oe bL ?_;refine oe (av 1) ?_;refine oe (aF (b:=b1)) ?_;refine oN hM fun hM=>?_;obtain⟨l3,hl4,hM⟩:=bind_some hM;refine bM (La (r:=bS) (xs:=r0.Steps) (ol:=none) (oh:=some (.i64,((r0.Steps.length:Int)-r0.Overlap))) (Sk.dw (α:=List Step) (r:=bS) (x:=r0.Steps) hA) hl4 (fun r5=>?_));refine aT ?_;obtain rfl:=some_inj hM;refine aY (mD (fun w hm=>fU r5 hm rfl))
def adL(y5:(List Cell)×Int×Int):Unit→Option (uP×Int):=fun _=>
 some ((uP.mk y5.1 y5.2.1),0)
def PL(eG:(List Step))(l0:Layout)(s0:aH)(y5:(List Cell)×Int×Int)(bA:Nat→Option (uP×Int)):Nat→Option (uP×Int):=fun IL=>
 if decide ((IL:Int)<(eG.length:Int)) then
  ((idx eG (IL:Int)).bind fun x20=>
  (idx l0.Sections x20.Section).bind fun x23=>
  if decide (x23.Length<(if s0.Length>2 then s0.Length else 2)) then
   (some ((uP.mk ([]:List Cell) 0),12))
  else
   (bA (IL+1)))
 else
  (adL y5 ())
def U4(l0:Layout)(r0:aO)(s0:aH):Option (uP×Int):=
 (TA l0 r0).bind fun y5=>
 if decide (y5.2.2≠0) then
  (some ((uP.mk ([]:List Cell) 0),y5.2.2))
 else
  ((PY s0).bind fun jd=>
  if (!jd) then
   (some ((uP.mk ([]:List Cell) 0),1))
  else
   ((PN r0).bind fun eG=>
   iter (PL eG l0 s0 y5) FUEL 0))
theorem ai3(S:bO)(w:World)(l0:Layout)(ay:aC.R Layout)(r0:aO)(bS:aC.R aO)(s0:aH)(y:uP×Int)(hM:U4 l0 r0 s0=some y)(hS:sB S w)(dZ:aC.ok S w ay l0)(qg:aC.ok S w bS r0):
   Calls Tryz.prog 176 #[.agg (jN l0 ay),.agg (xH r0 bS),.agg (Jc s0)] w (Post (β:=(aC.R uP)) S [] (fun g=> .tuple #[.agg (YD y.1 g),vI y.2]) (fun g=>[aj 254 g y.1.cells]) w):=by
 refine cu (args:=[_,_,_]) Tryz.func176 rfl ((pre_nil hS).start |>.lY dZ|>.gW (α:=List Step) (r:=bS) (x:=r0.Steps) qg) rfl ?_;unfold U4 at hM;refine sr ?_;refine oB (cK l0 ay) fun b1=>?_;refine oB (jC r0 bS) fun b2=>?_;refine oB (ru s0) fun b3=>?_;refine oA rfl fun b4=>?_;refine aT ?_;refine sr ?_;refine oe (bR (b:=b1)) ?_;refine oe (bR (b:=b2)) ?_;obtain⟨y5,ug,hM⟩:=bind_some hM;refine bM (fJ jM.nil (fun S w hs hP=>aqK _ w l0 ay r0 bS y5 ug (bf hs) ⟨(kM hs),(kM hs),(kM hs),(kM hs)⟩ (kM hs)) gq (fun r7=>?_));dsimp only[cA,nA];refine om ?_
 refine oe (jv (vs:=[sL r7 y5.1,vI y5.2.1,vI y5.2.2])) ?_;refine oe (jv (vs:=[sL r7 y5.1,vI y5.2.1,vI y5.2.2])) ?_;refine oe (jv (vs:=[sL r7 y5.1,vI y5.2.1,vI y5.2.2])) ?_;refine oa ?_;refine oa ?_;refine aT ?_;refine aK fun K3 hK3=>?_;refine aW ?_;refine oe gZ ?_;refine on ?_;refine cc rfl hM (fun hc8 hM=>?_) (fun hc8 hM=>?_)
 ·refine sr ?_;refine oe (gI [z0,vI 0]) ?_;refine om ?_;refine oS b4 [z0,vI 0] ?_;refine aT ?_;refine cZ (fun w hm=>hm.dR (α:=Cell) 254 (fun _=>())) ?_;obtain rfl:=some_inj hM;refine aY (uw (fun w hm=>fU Eo hm rfl))
 refine aX (hK3 _ _ ?_);clear hK3;refine aK fun K6 dn=>?_;refine sr ?_;refine oe (bR (b:=b3)) ?_;obtain⟨jd,tZ,hM⟩:=bind_some hM;refine cv (fun hs=>adY _ _ s0 jd tZ (bf hs)) ?_;refine oe fq ?_;refine on ?_;refine cc rfl hM (fun qD hM=>?_) (fun qD hM=>?_)
 ·refine sr ?_;refine oe (gI [z0,vI 0]) ?_;refine oS b4 [z0,vI 0] ?_;refine aT ?_;refine cZ (fun w hm=>hm.dR (α:=Cell) 254 (fun _=>())) ?_;obtain rfl:=some_inj hM;refine aY (uw (fun w hm=>fU Eo hm rfl))
 refine aX (dn _ _ ?_);clear dn;refine aK fun K9 gB=>?_;refine sr ?_;refine oe (bR (b:=b2)) ?_;obtain⟨eG,uf,hM⟩:=bind_some hM;refine bM (nT jM.nil (fun S w hs hP=>ai4 _ w r0 bS eG uf hs.lt (kI hs)) (fun r16=>?_));dsimp only[cA,nA];refine mF (fun w hm=>Kn.len (kG eG r16) hm) fun asx=>?_;refine oe bL ?_;refine om ?_;refine on ?_;refine bH ?_;refine cZ (fun w hm=>hm.dR (α:=Cell) 254 (fun _=>())) ?_;refine lq hM (fun IL=>[(3,eP b1),(5,eP b3),(6,eP b4),(8,eS r7 y5.1),(9,eI y5.2.1),(29,eS r16 eG),(30,eI (eG.length:Int)),(31,eI (IL:Int))]) (fun IL=>[iL l0.aU ay.1,iL l0.bG ay.2.1,iL l0.Sections ay.2.2.1,iL l0.Links ay.2.2.2,own b1 26 (cK l0 ay),own b3 71 (ru s0),aj 254 Eo ([]:List Cell),own b4 238 [z0,vI 0],aj 254 r7 y5.1,iL eG r16]) sS rI ?_
 clear hM;rintro bA IL hM iG hL1;dsimp only[PL] at hM ⊢;refine sr ?_;refine oe bY ?_;refine on ?_;refine aK fun zy jY=>?_;refine cc rfl hM (fun hc19 hM=>?_) (fun hc19 hM=>?_)
 ·have asc:=of_decide_eq_true hc19;refine aX (jY _ _ ?_);clear jY;refine aK fun yD jO=>?_;refine bH ?_;refine sr ?_;obtain⟨x20,Fq,hM⟩:=bind_some hM;refine oe (bD (xs:=eG) 2 (kG eG r16) (iS Fq)) ?_;refine oe (fM (m:=2) (i:=(IL:Int)) (xs:=eG) (y:=x20) (l:=(o9 x20)) 0 (kG eG r16) (fun _=>Fq)) ?_;refine oA rfl fun b22=>?_;refine oS b22 (o9 x20) ?_;refine on ?_;refine aK fun zA jZ=>?_;refine gy _ (List.Sublist.refl _) ?_;refine ak 0 rfl (av 2) ?_;refine ak 1 rfl (aF (b:=b1)) ?_;refine ak 2 rfl (av 0) ?_;refine ak 3 rfl (aF (b:=b22)) ?_;obtain⟨x23,hx24,hM⟩:=bind_some hM;refine ak 4 rfl (bD (xs:=l0.Sections) 5 (kG l0.Sections ay.2.2.1) (iS hx24)) ?_;refine ak 5 rfl (av 1) ?_;refine ak 6 rfl (bT (i:=x20.Section) (xs:=l0.Sections) (y:=x23) 1 (kG l0.Sections ay.2.2.1) (fun _=>hx24)) ?_;refine ak 7 rfl (av 1) ?_;refine ak 8 rfl (aF (b:=b3)) ?_;refine ak 9 rfl Y8 ?_;refine ak 10 rfl bY ?_;refine dP (jZ _ _ ?_);clear jZ
  refine cc rfl hM (fun hc25 hM=>?_) (fun hc25 hM=>?_)
  · refine sr ?_;refine oe (gI [z0,vI 0]) ?_;refine oS b4 [z0,vI 0] ?_;refine aT ?_;refine cZ (fun w hm=>hm.dR (α:=Cell) 254 (fun _=>())) ?_;obtain rfl:=some_inj hM;refine aY (uw (fun w hm=>fU Eo hm rfl))
  refine aX (jO _ _ ?_);clear jO;refine bB ?_;refine oe (eH (hr:=fun _=>by unfold gF;omega)) ?_;refine om ?_;refine bC (hL1 hM sS rI)
 refine dK (gB _ _ ?_);clear gB;dsimp only[adL] at hM;refine aW ?_;refine om ?_;refine oe (gI [sL r7 y5.1,vI y5.2.1]) ?_;refine oS b4 [sL r7 y5.1,vI y5.2.1] ?_;refine aT ?_;obtain rfl:=some_inj hM;refine aY (uw (fun w hm=>fU r7 hm rfl))
def PI(l0:Layout)(r0:aO)(s0:aH):Option Int:=
 (U4 l0 r0 s0).bind fun y4=>
 some y4.2
theorem ai2(S:bO)(w:World)(l0:Layout)(ay:aC.R Layout)(r0:aO)(bS:aC.R aO)(s0:aH)(y:Int)(hM:PI l0 r0 s0=some y)(hS:sB S w)(dZ:aC.ok S w ay l0)(qg:aC.ok S w bS r0):
  Calls Tryz.prog 139 #[.agg (jN l0 ay),.agg (xH r0 bS),.agg (Jc s0)] w (dz w (vI y)):=by
 refine cu (args:=[_,_,_]) Tryz.func139 rfl ((pre_nil hS).start |>.lY dZ|>.gW (α:=List Step) (r:=bS) (x:=r0.Steps) qg) rfl ?_;unfold PI at hM;refine sr ?_;refine oB (cK l0 ay) fun b1=>?_;refine oB (jC r0 bS) fun b2=>?_;refine oB (ru s0) fun b3=>?_;refine aT ?_;refine sr ?_;refine oe (bR (b:=b1)) ?_;refine oe (bR (b:=b2)) ?_;refine oe (bR (b:=b3)) ?_;obtain⟨y4,Fy,hM⟩:=bind_some hM;refine bM (fJ jM.nil (fun S w hs hP=>ai3 _ w l0 ay r0 bS s0 y4 Fy (bf hs) ⟨(kM hs),(kM hs),(kM hs),(kM hs)⟩ (kM hs)) gq (fun r6=>?_));dsimp only[cA,nA];refine om ?_
 refine oe (jv (vs:=[.agg (YD y4.1 r6),vI y4.2])) ?_;refine oe (jv (vs:=[.agg (YD y4.1 r6),vI y4.2])) ?_;refine oA rfl fun b7=>?_;refine oS b7 (afK y4.1 r6) ?_;refine aT ?_;refine aW ?_;refine aT ?_;exact aY (bQ hM)
end Go.Proofs.YtcalibhfgdncaaaGreatDoor

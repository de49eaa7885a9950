/- Models of functions, and that the code computes them. -/
import Derived.Test.YtcalibhfgdncaaaGreatDoorRe
set_option linter.all false
namespace Go.Proofs.YtcalibhfgdncaaaGreatDoor
open Go.Dc Go.RowKit
set_option maxRecDepth 10000
def OX(s0:bA):Option Bool:=
 some (((((((decide (1≤s0.Length)&&decide (s0.Length≤40))&&decide (1000≤s0.tX))&&decide (s0.tX≤100000))&&decide (100≤s0.tQ))&&decide (s0.tQ≤2000))&&decide (100≤s0.tV))&&decide (s0.tV≤2000))
theorem acU(S:bB)(w:World)(s0:bA)(y:Bool)(hM:OX s0=some y)(hS:sB S w):
  Calls Tryz.prog 81 #[.agg (IZ s0)] w (cu w (.bool y)):=by
 refine bP (args:=[_]) Tryz.func81 rfl ((pre_nil hS).start) rfl ?_;unfold OX at hM;refine sr ?_;refine oB (sF s0) fun b1=>?_;refine aP ?_;refine sr ?_;refine oe (aD 1) ?_;refine oe (aJ (b:=b1)) ?_;refine oe jf ?_;refine om ?_;refine av rfl (aD 1) ?_;refine av rfl (aJ (b:=b1)) ?_;refine av rfl pU ?_;refine oe dI ?_;refine om ?_;refine av rfl (aD 2) ?_;refine av rfl (aJ (b:=b1)) ?_;refine av rfl jf ?_;refine oe dI ?_;refine om ?_;refine av rfl (aD 2) ?_;refine av rfl (aJ (b:=b1)) ?_;refine av rfl pU ?_;refine oe dI ?_;refine om ?_;refine av rfl (aD 3) ?_;refine av rfl (aJ (b:=b1)) ?_;refine av rfl jf ?_;refine oe dI ?_;refine om ?_;refine av rfl (aD 3) ?_;refine av rfl (aJ (b:=b1)) ?_;refine av rfl pU ?_;refine oe dI ?_;refine om ?_;refine av rfl (aD 4) ?_;refine av rfl (aJ (b:=b1)) ?_;refine av rfl jf ?_;refine oe dI ?_;refine om ?_;refine av rfl (aD 4) ?_;refine av rfl (aJ (b:=b1)) ?_
 refine av rfl pU ?_;refine oe dI ?_;refine aP ?_;exact aW (bN hM)
def OH(r0:aQ):Option (List Step):=
 bG (bW ((r0.Steps.length:Int)-r0.Overlap))<|
 (sub r0.Steps 0 ((r0.Steps.length:Int)-r0.Overlap)).bind fun l3=>
 some l3
theorem ahW(S:bB)(w:World)(r0:aQ)(aj:ak.R aQ)(y:(List Step))(hM:OH r0=some y)(hS:sB S w)(uT:ak.ok S w aj r0):
  Calls Tryz.prog 194 #[.agg (C9 r0 aj)] w (Post (β:=(ak.R (List Step))) S [] (fun g=>sL g y) (fun g=>[iL y g]) w):=by
 refine bP (args:=[_]) Tryz.func194 rfl ((pre_nil hS).start |>.bU (α:=List Step) (r:=aj) (x:=r0.Steps) uT) rfl ?_;unfold OH at hM;refine sr ?_;refine oB (nU r0 aj) fun b1=>?_;refine aP ?_;refine sr ?_;refine oe (aD 0) ?_;refine oe (aJ (b:=b1)) ?_;refine oe (aD 0) ?_;refine oe (aJ (b:=b1)) ?_;refine oe bJ ?_;refine oe (aD 1) ?_;refine oe (aJ (b:=b1)) ?_;refine oN hM fun hM=>?_;obtain⟨l3,hl4,hM⟩:=bind_some hM;refine bn (NK (r:=aj) (xs:=r0.Steps) (ol:=none) (oh:=some (.i64,((r0.Steps.length:Int)-r0.Overlap))) (Sk.dW (α:=List Step) (r:=aj) (x:=r0.Steps) hA) hl4 (fun r5=>?_));refine aP ?_;obtain rfl:=some_inj hM;refine aW (jE (fun w hm=>dO r5 hm rfl))
def acn(y5:(List Cell)×Int×Int):Unit→Option (tT×Int):=fun _=>
 some ((tT.mk y5.1 y5.2.1),0)
def OG(dN:(List Step))(l0:Layout)(s0:bA)(y5:(List Cell)×Int×Int)(aY:Nat→Option (tT×Int)):Nat→Option (tT×Int):=fun Iz=>
 if decide ((Iz:Int)<(dN.length:Int)) then
  ((idx dN (Iz:Int)).bind fun x20=>
  (idx l0.Sections x20.Section).bind fun x23=>
  if decide (x23.Length<(if s0.Length>2 then s0.Length else 2)) then
   (some ((tT.mk ([]:List Cell) 0),12))
  else
   (aY (Iz+1)))
 else
  (acn y5 ())
def Uj(l0:Layout)(r0:aQ)(s0:bA):Option (tT×Int):=
 (Sn l0 r0).bind fun y5=>
 if decide (y5.2.2≠0) then
  (some ((tT.mk ([]:List Cell) 0),y5.2.2))
 else
  ((OX s0).bind fun jC=>
  if (!jC) then
   (some ((tT.mk ([]:List Cell) 0),1))
  else
   ((OH r0).bind fun dN=>
   iter (OG dN l0 s0 y5) FUEL 0))
theorem ahV(S:bB)(w:World)(l0:Layout)(aC:ak.R Layout)(r0:aQ)(aj:ak.R aQ)(s0:bA)(y:tT×Int)(hM:Uj l0 r0 s0=some y)(hS:sB S w)(fG:ak.ok S w aC l0)(uT:ak.ok S w aj r0):
   Calls Tryz.prog 176 #[.agg (lC l0 aC),.agg (C9 r0 aj),.agg (IZ s0)] w (Post (β:=(ak.R tT)) S [] (fun g=> .tuple #[.agg (Ya y.1 g),vI y.2]) (fun g=>[ah 254 g y.1.cells]) w):=by
 refine bP (args:=[_,_,_]) Tryz.func176 rfl ((pre_nil hS).start |>.lS fG|>.bU (α:=List Step) (r:=aj) (x:=r0.Steps) uT) rfl ?_;unfold Uj at hM;refine sr ?_;refine oB (dP l0 aC) fun b1=>?_;refine oB (nU r0 aj) fun b2=>?_;refine oB (sF s0) fun b3=>?_;refine oA rfl fun b4=>?_;refine aP ?_;refine sr ?_;refine oe (bX (b:=b1)) ?_;refine oe (bX (b:=b2)) ?_;obtain⟨y5,kU,hM⟩:=bind_some hM;refine bn (eU jw.nil (fun S w hs hP=>aop _ w l0 aC r0 aj y5 kU (bC hs) ⟨(kM hs),(kM hs),(kM hs),(kM hs)⟩ (kM hs)) fK (fun r7=>?_));dsimp only[cA,nA];refine om ?_
 refine oe (eO (vs:=[sL r7 y5.1,vI y5.2.1,vI y5.2.2])) ?_;refine oe (eO (vs:=[sL r7 y5.1,vI y5.2.1,vI y5.2.2])) ?_;refine oe (eO (vs:=[sL r7 y5.1,vI y5.2.1,vI y5.2.2])) ?_;refine oa ?_;refine oa ?_;refine aP ?_;refine aG fun K3 hK3=>?_;refine aO ?_;refine oe iy ?_;refine on ?_;refine cc rfl hM (fun hc8 hM=>?_) (fun hc8 hM=>?_)
 ·refine sr ?_;refine oe (fT [z0,vI 0]) ?_;refine om ?_;refine oS b4 [z0,vI 0] ?_;refine aP ?_;refine bQ (fun w hm=>hm.bV (α:=Cell) 254 (fun _=>())) ?_;obtain rfl:=some_inj hM;refine aW (qO (fun w hm=>dO JJ hm rfl))
 refine aX (hK3 _ _ ?_);clear hK3;refine aG fun K6 bZ=>?_;refine sr ?_;refine oe (bX (b:=b3)) ?_;obtain⟨jC,xB,hM⟩:=bind_some hM;refine cv (fun hs=>acU _ _ s0 jC xB (bC hs)) ?_;refine oe fF ?_;refine on ?_;refine cc rfl hM (fun vX hM=>?_) (fun vX hM=>?_)
 ·refine sr ?_;refine oe (fT [z0,vI 0]) ?_;refine oS b4 [z0,vI 0] ?_;refine aP ?_;refine bQ (fun w hm=>hm.bV (α:=Cell) 254 (fun _=>())) ?_;obtain rfl:=some_inj hM;refine aW (qO (fun w hm=>dO JJ hm rfl))
 refine aX (bZ _ _ ?_);clear bZ;refine aG fun K9 dU=>?_;refine sr ?_;refine oe (bX (b:=b2)) ?_;obtain⟨dN,rJ,hM⟩:=bind_some hM;refine bn (fq jw.nil (fun S w hs hP=>ahW _ w r0 aj dN rJ hs.lt (kI hs)) (fun r16=>?_));dsimp only[cA,nA];refine iO (fun w hm=>Kn.len (kG dN r16) hm) fun aqB=>?_;refine oe bJ ?_;refine om ?_;refine on ?_;refine bF ?_;refine bQ (fun w hm=>hm.bV (α:=Cell) 254 (fun _=>())) ?_;refine lq hM (fun Iz=>[(3,eP b1),(5,eP b3),(6,eP b4),(8,eS r7 y5.1),(9,eI y5.2.1),(29,eS r16 dN),(30,eI (dN.length:Int)),(31,eI (Iz:Int))]) (fun Iz=>[iL l0.aM aC.1,iL l0.aV aC.2.1,iL l0.Sections aC.2.2.1,iL l0.Links aC.2.2.2,own b1 26 (dP l0 aC),own b3 71 (sF s0),ah 254 JJ ([]:List Cell),own b4 238 [z0,vI 0],ah 254 r7 y5.1,iL dN r16]) sS rI ?_
 clear hM;rintro aY Iz hM gu hL1;dsimp only[OG] at hM ⊢;refine sr ?_;refine oe cO ?_;refine on ?_;refine aG fun CX lZ=>?_;refine cc rfl hM (fun hc19 hM=>?_) (fun hc19 hM=>?_)
 ·have aqo:=of_decide_eq_true hc19;refine aX (lZ _ _ ?_);clear lZ;refine aG fun BA kS=>?_;refine bF ?_;refine sr ?_;obtain⟨x20,zn,hM⟩:=bind_some hM;refine oe (bI (xs:=dN) 2 (kG dN r16) (iS zn)) ?_;refine oe (fO (m:=2) (i:=(Iz:Int)) (xs:=dN) (y:=x20) (l:=(qU x20)) 0 (kG dN r16) (fun _=>zn)) ?_;refine oA rfl fun b22=>?_;refine oS b22 (qU x20) ?_;refine on ?_;refine aG fun CY l7=>?_;refine iD _ (List.Sublist.refl _) ?_;refine ay 0 rfl (aD 2) ?_;refine ay 1 rfl (aJ (b:=b1)) ?_;refine ay 2 rfl (aD 0) ?_;refine ay 3 rfl (aJ (b:=b22)) ?_;obtain⟨x23,hx24,hM⟩:=bind_some hM;refine ay 4 rfl (bI (xs:=l0.Sections) 5 (kG l0.Sections aC.2.2.1) (iS hx24)) ?_;refine ay 5 rfl (aD 1) ?_;refine ay 6 rfl (dh (i:=x20.Section) (xs:=l0.Sections) (y:=x23) 1 (kG l0.Sections aC.2.2.1) (fun _=>hx24)) ?_;refine ay 7 rfl (aD 1) ?_;refine ay 8 rfl (aJ (b:=b3)) ?_;refine ay 9 rfl aiI ?_;refine ay 10 rfl cO ?_;refine dY (l7 _ _ ?_);clear l7
  refine cc rfl hM (fun hc25 hM=>?_) (fun hc25 hM=>?_)
  · refine sr ?_;refine oe (fT [z0,vI 0]) ?_;refine oS b4 [z0,vI 0] ?_;refine aP ?_;refine bQ (fun w hm=>hm.bV (α:=Cell) 254 (fun _=>())) ?_;obtain rfl:=some_inj hM;refine aW (qO (fun w hm=>dO JJ hm rfl))
  refine aX (kS _ _ ?_);clear kS;refine aZ ?_;refine oe (dH (hr:=fun _=>by unfold d9;omega)) ?_;refine om ?_;refine bf (hL1 hM sS rI)
 refine dL (dU _ _ ?_);clear dU;dsimp only[acn] at hM;refine aO ?_;refine om ?_;refine oe (fT [sL r7 y5.1,vI y5.2.1]) ?_;refine oS b4 [sL r7 y5.1,vI y5.2.1] ?_;refine aP ?_;obtain rfl:=some_inj hM;refine aW (qO (fun w hm=>dO r7 hm rfl))
def OE(l0:Layout)(r0:aQ)(s0:bA):Option Int:=
 (Uj l0 r0 s0).bind fun y4=>
 some y4.2
theorem ahU(S:bB)(w:World)(l0:Layout)(aC:ak.R Layout)(r0:aQ)(aj:ak.R aQ)(s0:bA)(y:Int)(hM:OE l0 r0 s0=some y)(hS:sB S w)(fG:ak.ok S w aC l0)(uT:ak.ok S w aj r0):
  Calls Tryz.prog 139 #[.agg (lC l0 aC),.agg (C9 r0 aj),.agg (IZ s0)] w (cu w (vI y)):=by
 refine bP (args:=[_,_,_]) Tryz.func139 rfl ((pre_nil hS).start |>.lS fG|>.bU (α:=List Step) (r:=aj) (x:=r0.Steps) uT) rfl ?_;unfold OE at hM;refine sr ?_;refine oB (dP l0 aC) fun b1=>?_;refine oB (nU r0 aj) fun b2=>?_;refine oB (sF s0) fun b3=>?_;refine aP ?_;refine sr ?_;refine oe (bX (b:=b1)) ?_;refine oe (bX (b:=b2)) ?_;refine oe (bX (b:=b3)) ?_;obtain⟨y4,P5,hM⟩:=bind_some hM;refine bn (eU jw.nil (fun S w hs hP=>ahV _ w l0 aC r0 aj s0 y4 P5 (bC hs) ⟨(kM hs),(kM hs),(kM hs),(kM hs)⟩ (kM hs)) fK (fun r6=>?_));dsimp only[cA,nA];refine om ?_
 refine oe (eO (vs:=[.agg (Ya y4.1 r6),vI y4.2])) ?_;refine oe (eO (vs:=[.agg (Ya y4.1 r6),vI y4.2])) ?_;refine oA rfl fun b7=>?_;refine oS b7 (aeR y4.1 r6) ?_;refine aP ?_;refine aO ?_;refine aP ?_;exact aW (bN hM)
end Go.Proofs.YtcalibhfgdncaaaGreatDoor

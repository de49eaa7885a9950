/- Models of functions, and that the code computes them. -/
import Derived.Test.YtcalibhfgdncaaaGreatRe
set_option linter.all false
namespace Go.Proofs.YtcalibhfgdncaaaGreat
open Go.Dc Go.RowKit
set_option maxRecDepth 10000
def OH(s0:bL):Option Bool:=
 some (((((((decide (1≤s0.Length)&&decide (s0.Length≤40))&&decide (1000≤s0.zF))&&decide (s0.zF≤100000))&&decide (100≤s0.zx))&&decide (s0.zx≤2000))&&decide (100≤s0.zy))&&decide (s0.zy≤2000))
theorem acL(S:bF)(w:World)(s0:bL)(y:Bool)(hM:OH s0=some y)(hS:sB S w):
  Calls Tryz.prog 68 #[.agg (IX s0)] w (dw w (.bool y)):=by
 refine bW (args:=[_]) Tryz.func68 rfl ((pre_nil hS).start) rfl ?_;unfold OH at hM;refine sr ?_;refine oB (vg s0) fun b1=>?_;refine aL ?_;refine sr ?_;refine oe (ay 1) ?_;refine oe (aD (b:=b1)) ?_;refine oe ig ?_;refine om ?_;refine au rfl (ay 1) ?_;refine au rfl (aD (b:=b1)) ?_;refine au rfl kD ?_;refine oe dB ?_;refine om ?_;refine au rfl (ay 2) ?_;refine au rfl (aD (b:=b1)) ?_;refine au rfl ig ?_;refine oe dB ?_;refine om ?_;refine au rfl (ay 2) ?_;refine au rfl (aD (b:=b1)) ?_;refine au rfl kD ?_;refine oe dB ?_;refine om ?_;refine au rfl (ay 3) ?_;refine au rfl (aD (b:=b1)) ?_;refine au rfl ig ?_;refine oe dB ?_;refine om ?_;refine au rfl (ay 3) ?_;refine au rfl (aD (b:=b1)) ?_;refine au rfl kD ?_;refine oe dB ?_;refine om ?_;refine au rfl (ay 4) ?_;refine au rfl (aD (b:=b1)) ?_;refine au rfl ig ?_;refine oe dB ?_;refine om ?_;refine au rfl (ay 4) ?_;refine au rfl (aD (b:=b1)) ?_
 refine au rfl kD ?_;refine oe dB ?_;refine aL ?_;exact aP (bD hM)
def Ot(r0:aO):Option (List Step):=
 aX (bA ((r0.Steps.length:Int)-r0.Overlap))<|
 (sub r0.Steps 0 ((r0.Steps.length:Int)-r0.Overlap)).bind fun l3=>
 some l3
theorem ahv(S:bF)(w:World)(r0:aO)(aC:ak.R aO)(y:(List Step))(hM:Ot r0=some y)(hS:sB S w)(ku:ak.ok S w aC r0):
  Calls Tryz.prog 131 #[.agg (Ao r0 aC)] w (Post (β:=(ak.R (List Step))) S [] (fun g=>sL g y) (fun g=>[iL y g]) w):=by
 refine bW (args:=[_]) Tryz.func131 rfl ((pre_nil hS).start |>.dZ (α:=List Step) (r:=aC) (x:=r0.Steps) ku) rfl ?_;unfold Ot at hM;refine sr ?_;refine oB (jV r0 aC) fun b1=>?_;refine aL ?_;refine sr ?_;refine oe (ay 0) ?_;refine oe (aD (b:=b1)) ?_;refine oe (ay 0) ?_;refine oe (aD (b:=b1)) ?_;refine oe bf ?_;refine oe (ay 1) ?_;refine oe (aD (b:=b1)) ?_;refine oN hM fun hM=>?_;obtain⟨l3,hl4,hM⟩:=bind_some hM;refine aY (NG (r:=aC) (xs:=r0.Steps) (ol:=none) (oh:=some (.i64,((r0.Steps.length:Int)-r0.Overlap))) (Sk.cO (α:=List Step) (r:=aC) (x:=r0.Steps) hA) hl4 (fun r5=>?_));refine aL ?_;obtain rfl:=some_inj hM;refine aP (tO (fun w hm=>gK r5 hm rfl))
def abP(y5:(List Cell)×Int×Int):Unit→Option (vM×Int):=fun _=>
 some ((vM.mk y5.1 y5.2.1),0)
def Oq(bZ:(List Step))(l0:Layout)(s0:bL)(y5:(List Cell)×Int×Int)(aN:Nat→Option (vM×Int)):Nat→Option (vM×Int):=fun Ir=>
 if decide ((Ir:Int)<(bZ.length:Int)) then
  ((idx bZ (Ir:Int)).bind fun x20=>
  (idx l0.Sections x20.Section).bind fun x23=>
  if decide (x23.Length<(if s0.Length>2 then s0.Length else 2)) then
   (some ((vM.mk ([]:List Cell) 0),12))
  else
   (aN (Ir+1)))
 else
  (abP y5 ())
def Tf(l0:Layout)(r0:aO)(s0:bL):Option (vM×Int):=
 (RD l0 r0).bind fun y5=>
 if decide (y5.2.2≠0) then
  (some ((vM.mk ([]:List Cell) 0),y5.2.2))
 else
  ((OH s0).bind fun iG=>
  if (!iG) then
   (some ((vM.mk ([]:List Cell) 0),1))
  else
   ((Ot r0).bind fun bZ=>
   iter (Oq bZ l0 s0 y5) FUEL 0))
theorem ahu(S:bF)(w:World)(l0:Layout)(aG:ak.R Layout)(r0:aO)(aC:ak.R aO)(s0:bL)(y:vM×Int)(hM:Tf l0 r0 s0=some y)(hS:sB S w)(eT:ak.ok S w aG l0)(ku:ak.ok S w aC r0):
   Calls Tryz.prog 126 #[.agg (lX l0 aG),.agg (Ao r0 aC),.agg (IX s0)] w (Post (β:=(ak.R vM)) S [] (fun g=> .tuple #[.agg (Xx y.1 g),vI y.2]) (fun g=>[ah 212 g y.1.cells]) w):=by
 refine bW (args:=[_,_,_]) Tryz.func126 rfl ((pre_nil hS).start |>.ny eT|>.dZ (α:=List Step) (r:=aC) (x:=r0.Steps) ku) rfl ?_;unfold Tf at hM;refine sr ?_;refine oB (eD l0 aG) fun b1=>?_;refine oB (jV r0 aC) fun b2=>?_;refine oB (vg s0) fun b3=>?_;refine oA rfl fun b4=>?_;refine aL ?_;refine sr ?_;refine oe (bM (b:=b1)) ?_;refine oe (bM (b:=b2)) ?_;obtain⟨y5,yS,hM⟩:=bind_some hM;refine aY (fP jL.nil (fun S w hs hP=>amT _ w l0 aG r0 aC y5 yS (bq hs) ⟨(kM hs),(kM hs),(kM hs),(kM hs)⟩ (kM hs)) fO (fun r7=>?_));dsimp only[cA,nA];refine om ?_
 refine oe (jl (vs:=[sL r7 y5.1,vI y5.2.1,vI y5.2.2])) ?_;refine oe (jl (vs:=[sL r7 y5.1,vI y5.2.1,vI y5.2.2])) ?_;refine oe (jl (vs:=[sL r7 y5.1,vI y5.2.1,vI y5.2.2])) ?_;refine oa ?_;refine oa ?_;refine aL ?_;refine aF fun K3 hK3=>?_;refine aJ ?_;refine oe gH ?_;refine on ?_;refine cc rfl hM (fun hc8 hM=>?_) (fun hc8 hM=>?_)
 ·refine sr ?_;refine oe (gD [z0,vI 0]) ?_;refine om ?_;refine oS b4 [z0,vI 0] ?_;refine aL ?_;refine dJ (fun w hm=>hm.dR (α:=Cell) 212 (fun _=>())) ?_;obtain rfl:=some_inj hM;refine aP (nu (fun w hm=>gK EP hm rfl))
 refine aM (hK3 _ _ ?_);clear hK3;refine aF fun K6 bU=>?_;refine sr ?_;refine oe (bM (b:=b3)) ?_;obtain⟨iG,tN,hM⟩:=bind_some hM;refine cv (fun hs=>acL _ _ s0 iG tN (bq hs)) ?_;refine oe dN ?_;refine on ?_;refine cc rfl hM (fun qQ hM=>?_) (fun qQ hM=>?_)
 ·refine sr ?_;refine oe (gD [z0,vI 0]) ?_;refine oS b4 [z0,vI 0] ?_;refine aL ?_;refine dJ (fun w hm=>hm.dR (α:=Cell) 212 (fun _=>())) ?_;obtain rfl:=some_inj hM;refine aP (nu (fun w hm=>gK EP hm rfl))
 refine aM (bU _ _ ?_);clear bU;refine aF fun K9 dY=>?_;refine sr ?_;refine oe (bM (b:=b2)) ?_;obtain⟨bZ,pX,hM⟩:=bind_some hM;refine aY (nV jL.nil (fun S w hs hP=>ahv _ w r0 aC bZ pX hs.lt (kI hs)) (fun r16=>?_));dsimp only[cA,nA];refine gU (fun w hm=>Kn.len (kG bZ r16) hm) fun akm=>?_;refine oe bf ?_;refine om ?_;refine on ?_;refine aV ?_;refine dJ (fun w hm=>hm.dR (α:=Cell) 212 (fun _=>())) ?_;refine lq hM (fun Ir=>[(3,eP b1),(5,eP b3),(6,eP b4),(8,eS r7 y5.1),(9,eI y5.2.1),(29,eS r16 bZ),(30,eI (bZ.length:Int)),(31,eI (Ir:Int))]) (fun Ir=>[iL l0.bB aG.1,iL l0.bN aG.2.1,iL l0.Sections aG.2.2.1,iL l0.Links aG.2.2.2,own b1 27 (eD l0 aG),own b3 62 (vg s0),ah 212 EP ([]:List Cell),own b4 208 [z0,vI 0],ah 212 r7 y5.1,iL bZ r16]) sS rI ?_
 clear hM;rintro aN Ir hM fQ hL1;dsimp only[Oq] at hM ⊢;refine sr ?_;refine oe bK ?_;refine on ?_;refine aF fun vN iI=>?_;refine cc rfl hM (fun hc19 hM=>?_) (fun hc19 hM=>?_)
 ·have aod:=of_decide_eq_true hc19;refine aM (iI _ _ ?_);clear iI;refine aF fun rU fT=>?_;refine aV ?_;refine sr ?_;obtain⟨x20,BP,hM⟩:=bind_some hM;refine oe (aQ (xs:=bZ) 2 (kG bZ r16) (iS BP)) ?_;refine oe (eY (m:=2) (i:=(Ir:Int)) (xs:=bZ) (y:=x20) (l:=(rM x20)) 0 (kG bZ r16) (fun _=>BP)) ?_;refine oA rfl fun Df=>?_;refine oS Df (rM x20) ?_;refine on ?_;refine aF fun yE jN=>?_;refine fE _ (List.Sublist.refl _) ?_;refine aj 0 rfl (ay 2) ?_;refine aj 1 rfl (aD (b:=b1)) ?_;refine aj 2 rfl (ay 0) ?_;refine aj 3 rfl (aD (b:=Df)) ?_;obtain⟨x23,hx24,hM⟩:=bind_some hM;refine aj 4 rfl (aQ (xs:=l0.Sections) 5 (kG l0.Sections aG.2.2.1) (iS hx24)) ?_;refine aj 5 rfl (ay 1) ?_;refine aj 6 rfl (bE (i:=x20.Section) (xs:=l0.Sections) (y:=x23) 1 (kG l0.Sections aG.2.2.1) (fun _=>hx24)) ?_;refine aj 7 rfl (ay 1) ?_;refine aj 8 rfl (aD (b:=b3)) ?_;refine aj 9 rfl acP ?_;refine aj 10 rfl bK ?_;refine dK (jN _ _ ?_);clear jN
  refine cc rfl hM (fun hc25 hM=>?_) (fun hc25 hM=>?_)
  · refine sr ?_;refine oe (gD [z0,vI 0]) ?_;refine oS b4 [z0,vI 0] ?_;refine aL ?_;refine dJ (fun w hm=>hm.dR (α:=Cell) 212 (fun _=>())) ?_;obtain rfl:=some_inj hM;refine aP (nu (fun w hm=>gK EP hm rfl))
  refine aM (fT _ _ ?_);clear fT;refine aT ?_;refine oe (dh (hr:=fun _=>by unfold dS;omega)) ?_;refine om ?_;refine aU (hL1 hM sS rI)
 refine bX (dY _ _ ?_);clear dY;dsimp only[abP] at hM;refine aJ ?_;refine om ?_;refine oe (gD [sL r7 y5.1,vI y5.2.1]) ?_;refine oS b4 [sL r7 y5.1,vI y5.2.1] ?_;refine aL ?_;obtain rfl:=some_inj hM;refine aP (nu (fun w hm=>gK r7 hm rfl))
def Oo(l0:Layout)(r0:aO)(s0:bL):Option Int:=
 (Tf l0 r0 s0).bind fun y4=>
 some y4.2
theorem aht(S:bF)(w:World)(l0:Layout)(aG:ak.R Layout)(r0:aO)(aC:ak.R aO)(s0:bL)(y:Int)(hM:Oo l0 r0 s0=some y)(hS:sB S w)(eT:ak.ok S w aG l0)(ku:ak.ok S w aC r0):
  Calls Tryz.prog 106 #[.agg (lX l0 aG),.agg (Ao r0 aC),.agg (IX s0)] w (dw w (vI y)):=by
 refine bW (args:=[_,_,_]) Tryz.func106 rfl ((pre_nil hS).start |>.ny eT|>.dZ (α:=List Step) (r:=aC) (x:=r0.Steps) ku) rfl ?_;unfold Oo at hM;refine sr ?_;refine oB (eD l0 aG) fun b1=>?_;refine oB (jV r0 aC) fun b2=>?_;refine oB (vg s0) fun b3=>?_;refine aL ?_;refine sr ?_;refine oe (bM (b:=b1)) ?_;refine oe (bM (b:=b2)) ?_;refine oe (bM (b:=b3)) ?_;obtain⟨y4,FZ,hM⟩:=bind_some hM;refine aY (fP jL.nil (fun S w hs hP=>ahu _ w l0 aG r0 aC s0 y4 FZ (bq hs) ⟨(kM hs),(kM hs),(kM hs),(kM hs)⟩ (kM hs)) fO (fun r6=>?_));dsimp only[cA,nA];refine om ?_
 refine oe (jl (vs:=[.agg (Xx y4.1 r6),vI y4.2])) ?_;refine oe (jl (vs:=[.agg (Xx y4.1 r6),vI y4.2])) ?_;refine oA rfl fun b7=>?_;refine oS b7 (ae1 y4.1 r6) ?_;refine aL ?_;refine aJ ?_;refine aL ?_;exact aP (bD hM)
end Go.Proofs.YtcalibhfgdncaaaGreat

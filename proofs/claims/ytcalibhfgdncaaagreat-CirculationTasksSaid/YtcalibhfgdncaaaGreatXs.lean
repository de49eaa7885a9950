/- Models of functions, and that the code computes them. -/
import Derived.Test.YtcalibhfgdncaaaGreatXd
set_option linter.all false
namespace Go.Proofs.YtcalibhfgdncaaaGreat
open Go.Dc Go.RowKit
set_option maxRecDepth 10000
def ac9(AX:List Int)(mq:(List Int))(BO:Int):Unit→Option (Flow×Int):=fun _=>
 some ((Flow.mk AX mq BO),0)
def ac8(g0:Graph)(fF:(List Int)×(List Int)×(List Int))(mq:(List Int))(aN:((List Int)×Int×Nat)→Option (Flow×Int)):((List Int)×Int×Nat)→Option (Flow×Int):=fun (AX,BO,oC)=>
 if decide ((oC:Int)<(g0.iH.length:Int)) then
  ((idx g0.iH (oC:Int)).bind fun x28=>
  aX (bA (2*(oC:Int)))<|
  aX (bA ((2*(oC:Int))+1))<|
  (idx fF.1 ((2*(oC:Int))+1)).bind fun iW=>
  aX (decide ((AX.length+([iW]:List Int).length)*8≤140737488355328))<|
  aX (bA (iW*x28.wN))<|
  aX (bA (BO+(iW*x28.wN)))<|
  aN ((AX++([iW]:List Int)),(BO+(iW*x28.wN)),oC+1))
 else
  (ac9 AX mq BO ())
def X8(g0:Graph):Option (Flow×Int):=
 (X7 g0).bind fun y3=>
 if (!y3) then
  (some ((Flow.mk ([]:List Int) ([]:List Int) 0),1))
 else
  ((Ya g0).bind fun y8=>
  (Yh y8).bind fun fF=>
  (Yf (fD.mk y8.nodes y8.kW y8.to fF.1 y8.cost y8.from_ fF.2.1 fF.2.2)).bind fun bZ=>
  if (!bZ) then
   (some ((Flow.mk ([]:List Int) ([]:List Int) 0),14))
  else
   ((Yg (fD.mk y8.nodes y8.kW y8.to fF.1 y8.cost y8.from_ fF.2.1 fF.2.2)).bind fun mq=>
   iter (ac8 g0 fF mq) FUEL (([]:List Int),0,0)))
theorem aiz(S:bF)(w:World)(g0:Graph)(jW:ak.R Graph)(y:Flow×Int)(hM:X8 g0=some y)(hS:sB S w)(Ph:ak.ok S w jW g0):
   Calls Tryz.prog 55 #[.agg (Xy g0 jW)] w (Post (β:=(ak.R Flow)) S [] (fun g=> .tuple #[.agg (SQ y.1 g),vI y.2]) (fun g=>[ah 3 g.1 y.1.X,ah 3 g.2 y.1.Fp]) w):=by
 refine bW (args:=[_]) Tryz.func55 rfl ((pre_nil hS).start |>.aam Ph) rfl ?_;unfold X8 at hM;refine sr ?_;refine oB (JJ g0 jW) fun b1=>?_;refine oA rfl fun b2=>?_;refine aL ?_;refine aF fun K2 hK2=>?_;refine sr ?_;refine oe (bM (b:=b1)) ?_;obtain⟨y3,hy4,hM⟩:=bind_some hM;refine cv (fun hs=>aiy _ _ g0 jW y3 hy4 (bq hs) ⟨(kM hs),(kM hs)⟩) ?_;refine oe dN ?_;refine on ?_;refine cc rfl hM (fun jO hM=>?_) (fun jO hM=>?_)
 ·refine sr ?_;refine oe (gD [z0,z0,vI 0]) ?_;refine oS b2 [z0,z0,vI 0] ?_;refine aL ?_;refine dJ (fun w hm=>hm.dR (α:=Int) 3 (fun _=>())) ?_;refine dJ (fun w hm=>hm.dR (α:=Int) 3 (fun _=>())) ?_;obtain rfl:=some_inj hM;refine aP (nu (fun w hm=>gK (eB,eB) hm rfl))
 refine aM (hK2 _ _ ?_);clear hK2;refine sr ?_;refine oe (bM (b:=b1)) ?_;obtain⟨y8,qR,hM⟩:=bind_some hM;refine aY (nV jL.nil (fun S w hs hP=>aiA _ w g0 jW y8 qR hs.lt ⟨(kI hs),(kI hs)⟩) (fun jr=>?_));dsimp only[cA,nA];refine aL ?_;refine aJ ?_;obtain⟨fF,yP,hM⟩:=bind_some hM;refine aY (nV sA (fun S w hs hP=>aiF _ w jr.1 y8 jr.2 fF yP hP) (fun gN=>?_));dsimp only[cA,nA];refine on ?_;refine aF fun K7 eU=>?_;refine aJ ?_;obtain⟨bZ,pX,hM⟩:=bind_some hM;refine cv (fun hs=>aiD _ _ jr.1 (fD.mk y8.nodes y8.kW y8.to fF.1 y8.cost y8.from_ fF.2.1 fF.2.2) (jr.2.1,gN.1,jr.2.2.2.1,jr.2.2.2.2.1,gN.2.1,gN.2.2) bZ pX (bq hs) (JK hA hs) ⟨(kT hs),(kT hs),(kT hs),(Kn.lend (Kn.Wy (e:=22) (r:=jr.2.2.2.2.1) hA) hs),(kT hs),(kT hs)⟩) ?_;refine oe dN ?_;refine on ?_;refine cc rfl hM (fun hc16 hM=>?_) (fun hc16 hM=>?_)
 ·refine sr ?_;refine oe (gD [z0,z0,vI 0]) ?_;refine oS b2 [z0,z0,vI 0] ?_;refine aL ?_;refine dJ (fun w hm=>hm.dR (α:=Int) 3 (fun _=>())) ?_;refine dJ (fun w hm=>hm.dR (α:=Int) 3 (fun _=>())) ?_;obtain rfl:=some_inj hM;refine aP (nu (fun w hm=>gK (eB,eB) hm rfl))
 refine aM (eU _ _ ?_);clear eU;refine aJ ?_;obtain⟨mq,FW,hM⟩:=bind_some hM;refine aY (fP jL.nil (fun S w hs hP=>aiE _ w jr.1 (fD.mk y8.nodes y8.kW y8.to fF.1 y8.cost y8.from_ fF.2.1 fF.2.2) (jr.2.1,gN.1,jr.2.2.2.1,jr.2.2.2.2.1,gN.2.1,gN.2.2) mq FW (bq hs) (JK hA hs) ⟨(kT hs),(kT hs),(kT hs),(Kn.lend (Kn.Wy (e:=22) (r:=jr.2.2.2.2.1) hA) hs),(kT hs),(kT hs)⟩) fO (fun vv=>?_));dsimp only[cA,nA];refine oe (gD [z0,sL vv mq,vI 0]) ?_;refine oA rfl fun Df=>?_;refine oS Df [z0,sL vv mq,vI 0] ?_;refine on ?_;refine aF fun pR eH=>?_;refine sr ?_;refine oe (ay 1) ?_;refine oe (aD (b:=b1)) ?_;refine gU (fun w hm=>Kn.len (kG g0.iH jW.2) hm) fun aeb=>?_;refine oe bf ?_;refine om ?_;refine on ?_;refine aV ?_;refine dJ (fun w hm=>hm.dR (α:=Int) 3 (fun _=>())) ?_;refine dJ (fun w hm=>hm.dR (α:=Int) 3 (fun _=>())) ?_;refine dJ (fun w hm=>hm.dR (α:=Int) 3 (fun _=>())) ?_;refine lp eB hM (fun (AX,BO,oC) J6=>[(2,eP b2),(4,eP jr.1),(5,eP Df),(25,eS jW.2 g0.iH),(26,eI (g0.iH.length:Int)),(27,eI (oC:Int))]) (fun (AX,BO,oC) J6=>[ah 3 eB ([]:List Int),ah 3 eB ([]:List Int),own b2 135 [z0,z0,vI 0],ah 3 jr.2.1 y8.to,ah 3 gN.1 fF.1,ah 3 jr.2.2.2.1 y8.cost,gI (fun _=>True) 22 3 jr.2.2.2.2.1 y8.from_,ah 3 gN.2.1 fF.2.1,ah 3 gN.2.2 fF.2.2,own jr.1 172 [vI y8.nodes,vI y8.kW,sL jr.2.1 y8.to,sL gN.1 fF.1,sL jr.2.2.2.1 y8.cost,sL jr.2.2.2.2.1 y8.from_,sL gN.2.1 fF.2.1,sL gN.2.2 fF.2.2],ah 3 J6 AX,ah 3 vv mq,own Df 135 [sL J6 AX,sL vv mq,vI BO],iL g0.iH jW.2]) sS rI ?_
 clear hM;rintro aN ⟨AX,BO,oC⟩ J6 hM fQ hL1;dsimp only[ac8] at hM ⊢;refine sr ?_;refine oe bK ?_;refine on ?_;refine aF fun zA kg=>?_;refine cc rfl hM (fun hc27 hM=>?_) (fun hc27 hM=>?_)
 ·have aof:=of_decide_eq_true hc27;refine aM (kg _ _ ?_);clear kg;refine aF fun yE jN=>?_;refine aV ?_;refine aJ ?_;obtain⟨x28,hx29,hM⟩:=bind_some hM;refine oe (aQ (xs:=g0.iH) 4 (kG g0.iH jW.2) (iS hx29)) ?_;refine oe (eY (m:=4) (i:=(oC:Int)) (xs:=g0.iH) (y:=x28) (l:=(Mw x28)) 0 (kG g0.iH jW.2) (fun _=>hx29)) ?_;refine oA rfl fun Og=>?_;refine oa ?_;refine oS Og (Mw x28) ?_;refine on ?_;refine aJ ?_;refine oe dH ?_;refine oe (ay 3) ?_;refine oe (aD (b:=jr.1)) ?_;refine om ?_;obtain⟨Yr,hM⟩:=bQ hM;refine oe (rC (hr:=fun hg=>dI Yr)) ?_;refine oP hM fun hM=>?_;obtain⟨iW,hx34,hM⟩:=bind_some hM;refine oe (aQ (xs:=fF.1) 1 (Kn.ah (e:=3) (r:=gN.1) hA) (iS hx34)) ?_;refine oe (bE (i:=((2*(oC:Int))+1)) (xs:=fF.1) (y:=iW) 0 (Kn.ah (e:=3) (r:=gN.1) hA) (fun _=>hx34)) ?_;refine aL ?_
  refine sr ?_;refine oe (ay 0) ?_;refine oe (aD (b:=Df)) ?_;refine om ?_;refine aY (fH (α:=Int) 3 (fun _=>()) ([iW]:List Int) oF (fun r35=>?_));obtain⟨ajq,hM⟩:=bQ hM;refine aY (jy (r:=J6) (r2:=r35) uR (Kn.ah (e:=3) (r:=r35) hA) oF (of_decide_eq_true ajq) (fun wC=>?_));refine oe (ay 0) ?_;refine aY (jT (b:=Df) (l':=[.slice wC.a ((AX++([iW]:List Int)).length) wC.cap,sL vv mq,vI BO]) (k:=?_));refine on ?_;refine aT ?_;refine oe (ay 2) ?_;refine oe (aD (b:=Df)) ?_;refine om ?_;refine oe (ay 3) ?_;refine oe (aD (b:=Og)) ?_;obtain⟨aiU,hM⟩:=bQ hM;refine oe (rC (hr:=fun hg=>dI aiU)) ?_;refine oP hM fun hM=>?_;refine oe (ay 2) ?_;refine aY (jT (b:=Df) (l':=[.slice wC.a ((AX++([iW]:List Int)).length) wC.cap,sL vv mq,vI (BO+(iW*x28.wN))]) (k:=?_));refine aU (jN _ _ ?_);clear jN;refine aT ?_;refine oe (dh (hr:=fun _=>by unfold dS;omega)) ?_;refine om ?_;refine aU (hL1 wC hM sS rI)
 refine bX (eH _ _ ?_);clear eH;dsimp only[ac9] at hM;refine sr ?_;refine oe (bM (b:=Df)) ?_;refine oS b2 [sL J6 AX,sL vv mq,vI BO] ?_;refine aL ?_;obtain rfl:=some_inj hM;refine aP (nu (fun w hm=>gK (J6,vv) hm rfl))
end Go.Proofs.YtcalibhfgdncaaaGreat

/- Models of functions, and that the code computes them. -/
import Derived.Test.YtcalibhfgdncaaaGreatDoorR0
set_option linter.all false
namespace Go.Proofs.YtcalibhfgdncaaaGreatDoor
open Go.Dc Go.RowKit
set_option maxRecDepth 10000
def WH(c0:Int):Option Bool:=
 some ((decide (33≤c0)&&decide (c0≤126))&&decide (c0≠35))
theorem ahd(S:bO)(w:World)(c0:Int)(y:Bool)(hM:WH c0=some y)(hS:sB S w):
  Calls Tryz.prog 170 #[.int .u8 c0] w (dz w (.bool y)):=by
 refine cu (args:=[_]) Tryz.func170 rfl ((pre_nil hS).start) rfl ?_;unfold WH at hM;refine bI ?_;refine aW ?_;refine oe jK ?_;refine om ?_;refine aD rfl aL ?_;refine aD rfl oI ?_;refine oe dG ?_;refine om ?_;refine aD rfl aL ?_;refine aD rfl gZ ?_;refine oe dG ?_;refine aT ?_;exact aY (bQ hM)
def SH(bg:Nat)(bA:((List Word)×Nat)→Option ((List Word)×Int)):(List Word)→Option ((List Word)×Int):=fun MU=>
 bq (bJ ((bg:Int)+1))<|
 bA (MU,bg+1)
def ahc(pR:List Word):Unit→Option ((List Word)×Int):=fun _=>
 if decide (64<(pR.length:Int)) then
  (some (([]:List Word),7))
 else
  (some (pR,0))
def ahb(s0:Str)(gD:Int)(bA:((List Word)×Nat)→Option ((List Word)×Int)):((List Word)×Nat)→Option ((List Word)×Int):=fun (pR,bg)=>
 (fK (decide ((bg:Int)<(s0.l.length:Int))) 0 (pK s0 (bg:Int))).bind fun c2=>
 if (decide ((bg:Int)<(s0.l.length:Int))&&decide (c2≠35)) then
  ((pK s0 (bg:Int)).bind fun c6=>
  (fK (!(decide (c6=32))) 0 (pK s0 (bg:Int))).bind fun c8=>
  if (decide (c6=32)||decide (c8=9)) then
   (SH bg bA pR)
  else
   ((pK s0 (bg:Int)).bind fun c11=>
   (WH c11).bind fun y13=>
   if (!y13) then
    (some (([]:List Word),2))
   else
    (bq (!(decide (0<(bg:Int)))||bJ ((bg:Int)-1))<|
    (fK (decide (0<(bg:Int))) 0 (pK s0 ((bg:Int)-1))).bind fun c18=>
    (fK (decide (0<(bg:Int))) default (WH c18)).bind fun y20=>
    if (decide (0<(bg:Int))&&y20) then
     (bq (bJ ((pR.length:Int)-1))<|
     (idx pR ((pR.length:Int)-1)).bind fun x24=>
     bq (bJ ((bg:Int)+1))<|
     (BH s0 (bg:Int) ((bg:Int)+1)).bind fun R7=>
     (dX x24.Text R7).bind fun R8=>
     (idx pR ((pR.length:Int)-1)).bind fun x31=>
     SH bg bA (pR.set ((pR.length:Int)-1).toNat (Word.mk R8 x31.Line x31.Col)))
    else
     (bq (bJ ((bg:Int)+1))<|
     (BH s0 (bg:Int) ((bg:Int)+1)).bind fun R9=>
     bq (bJ ((bg:Int)+1))<|
     bq (decide ((pR.length+([(Word.mk R9 gD ((bg:Int)+1))]:List Word).length)*32≤140737488355328))<|
     SH bg bA (pR++([(Word.mk R9 gD ((bg:Int)+1))]:List Word))))))
 else
  (ahc pR ())
def abW(s0:Str)(gD:Int):Option ((List Word)×Int):=
 iter (ahb s0 gD) FUEL (([]:List Word),0)
theorem aqj(S:bO)(w:World)(s0:Str)(gD:Int)(y:(List Word)×Int)(hM:abW s0 gD=some y)(hS:sB S w):
   Calls Tryz.prog 130 #[.string s0.ba,vI gD] w (Post (β:=(aC.R (List Word))) S [] (fun g=> .tuple #[sL g y.1,vI y.2]) (fun g=>[aj 108 g y.1]) w):=by
 refine cu (args:=[_,_]) Tryz.func130 rfl ((pre_nil hS).start) rfl ?_;unfold abW at hM;refine sr ?_;refine oa ?_;refine aT ?_;refine bI ?_;refine aK fun K3 hK3=>?_;refine bI ?_;refine bH ?_;refine cZ (fun w hm=>hm.dR (α:=Word) 108 (fun _=>())) ?_;refine lp M4 hM (fun (pR,bg) Ao=>[(0,.v (.string s0.ba)),(1,eI gD),(6,eS Ao pR),(7,eI (bg:Int))]) (fun (pR,bg) Ao=>[aj 108 Ao pR]) sS rI ?_;clear hM;rintro bA ⟨pR,bg⟩ Ao hM iG hL1;dsimp only[ahb] at hM ⊢;refine aK fun K5 dI=>?_;refine aW ?_;refine om ?_;refine oe vO ?_;refine oe bY ?_;refine om ?_;refine aD rfl aL ?_;refine aD rfl aL ?_;obtain⟨c2,amb,hM⟩:=bind_some hM;refine aD rfl (tT (eF amb)) ?_;refine aD rfl gZ ?_;refine oe dG ?_;refine on ?_;refine cc rfl hM (fun hc4 hM=>?_) (fun hc4 hM=>?_)
 ·refine aX (dI _ _ ?_);clear dI;refine jn (SR (aC.R Word)) y (k:=SH bg bA) (fun MU Tv=>[(0,.v (.string s0.ba)),(1,eI gD),(6,eS Tv MU),(7,eI (bg:Int))]) (fun MU Tv=>[aj 108 Tv MU]) ?_ ?_
  · intro zC hJ2;refine bH ?_;refine aK fun K7 eu=>?_;refine aW ?_;refine om ?_;obtain⟨c6,amd,hM⟩:=bind_some hM;refine oe (tT (fun _=>amd)) ?_;refine oe dU ?_;refine om ?_;refine aD rfl aL ?_;refine aD rfl aL ?_;obtain⟨c8,ZL,hM⟩:=bind_some hM;refine aD rfl (tT (eF ZL)) ?_;refine aD rfl dU ?_;refine oe dQ ?_;refine on ?_;refine cc rfl hM (fun wO hM=>?_) (fun wO hM=>?_)
    ·refine dK (hJ2 Ao hM sS rI)
    refine aX (eu _ _ ?_);clear eu;refine aK fun K9 gB=>?_;refine aW ?_;refine om ?_;obtain⟨c11,Qz,hM⟩:=bind_some hM;refine oe (tT (fun _=>Qz)) ?_;obtain⟨y13,xS,hM⟩:=bind_some hM;refine cv (fun hs=>ahd _ _ c11 y13 xS (bf hs)) ?_;refine oe fq ?_;refine on ?_;refine cc rfl hM (fun xQ hM=>?_) (fun xQ hM=>?_)
    ·refine sr ?_;refine oa ?_;refine aT ?_;refine cZ (fun w hm=>hm.dR (α:=Word) 108 (fun _=>())) ?_;obtain rfl:=some_inj hM;refine aY (uw (fun w hm=>fU M4 hm rfl))
    refine aX (gB _ _ ?_);clear gB;refine aW ?_;refine oe gM ?_;refine om ?_;refine aD rfl aL ?_;refine aD rfl aL ?_;obtain⟨Zk,hM⟩:=bW hM;refine aD rfl (ng (hr:=fun hg=>dY (Cb Zk hg))) ?_;obtain⟨c18,ama,hM⟩:=bind_some hM;refine aD rfl (tT (eF ama)) ?_;obtain⟨y20,Cq,hM⟩:=bind_some hM;refine cg rfl (fun hg hs=>ahd _ _ c18 y20 (eF Cq hg) (bf hs)) ?_;refine oe dG ?_;refine on ?_;refine cc rfl hM (fun hc22 hM=>?_) (fun hc22 hM=>?_)
    ·refine aW ?_;refine oe bL ?_;refine oN hM fun hM=>?_;refine aT ?_;refine iW [aj 108 Ao pR] 15 ?_;refine aG 0 rfl aL ?_;refine aG 1 rfl aL ?_;refine aG 2 rfl aL ?_;refine aG 3 rfl aL ?_;obtain⟨x24,hx25,hM⟩:=bind_some hM;refine aG 4 rfl (bD (xs:=pR) 3 (Kn.aj (e:=108) (r:=Ao) hA) (iS hx25)) ?_;refine aG 5 rfl (av 0) ?_;refine aG 6 rfl (bT (i:=((pR.length:Int)-1)) (xs:=pR) (y:=x24) 0 (Kn.aj (e:=108) (r:=Ao) hA) (fun _=>hx25)) ?_;refine aG 7 rfl aL ?_;refine aG 8 rfl aL ?_;refine aG 9 rfl aL ?_;obtain⟨Qh,hM⟩:=bW hM;refine aG 10 rfl (eH (hr:=fun hg=>dY Qh)) ?_;obtain⟨R7,Z4,hM⟩:=bind_some hM;refine aG 11 rfl (Jp (ol:=some (.i64,(bg:Int))) (oh:=some (.i64,((bg:Int)+1))) (fun _=>Z4)) ?_;obtain⟨R8,ank,hM⟩:=bind_some hM;refine aG 12 rfl (eZ (fun _=>ank)) ?_;obtain⟨x31,hx32,hM⟩:=bind_some hM;refine aG 13 rfl (bD (xs:=pR) 3 (Kn.aj (e:=108) (r:=Ao) hA) (iS hx32)) ?_;refine aG 14 rfl (av 0) ?_;refine iQ rfl (CV (r:=Ao) (i:=((pR.length:Int)-1)) (xs:=pR) (u:=x31) (vs:=[.string R8.ba]) 0 (Word.mk R8 x31.Line x31.Col) hx32 rfl (fun _ _ h=>h) uA ?_);have JE:=lW (u:=(Word.mk R8 x31.Line x31.Col)) hx32
     refine iP (hJ2 Ao hM ⟨rfl,rfl,(by simp only[List.length_set,eS,sL];rfl),rfl,trivial⟩ rI)
    refine bB ?_;refine om ?_;refine om ?_;refine om ?_;refine om ?_;refine oP hM fun hM=>?_;obtain⟨R9,ano,hM⟩:=bind_some hM;refine oe (Jp (ol:=some (.i64,(bg:Int))) (oh:=some (.i64,((bg:Int)+1))) (fun _=>ano)) ?_;refine om ?_;refine om ?_;refine oP hM fun hM=>?_;refine oe (gI [.string R9.ba,vI gD,vI ((bg:Int)+1)]) ?_;refine bM (fD (α:=Word) 108 (fun _=>()) ([(Word.mk R9 gD ((bg:Int)+1))]:List Word) oF (fun Km=>?_));obtain⟨Zy,hM⟩:=bW hM;refine bM (jc (r:=Ao) (r2:=Km) uR (Kn.aj (e:=108) (r:=Km) hA) oF (of_decide_eq_true Zy) (fun Ko=>?_));refine oa ?_;refine bC (hJ2 Ko hM sS rI)
  clear hM;rintro MU Tv hM;dsimp only[SH] at hM ⊢;refine bB ?_;refine om ?_;refine oP hM fun hM=>?_;refine oa ?_;refine bC (hL1 Tv hM sS rI)
 refine dK (hK3 _ _ ?_);clear hK3;dsimp only[ahc] at hM;refine aK fun BN mq=>?_;refine aW ?_;refine oe bL ?_;refine oe gM ?_;refine on ?_;refine cc rfl hM (fun GN hM=>?_) (fun GN hM=>?_)
 ·refine sr ?_;refine oa ?_;refine aT ?_;refine cZ (fun w hm=>hm.dR (α:=Word) 108 (fun _=>())) ?_;obtain rfl:=some_inj hM;refine aY (uw (fun w hm=>fU M4 hm rfl))
 refine aX (mq _ _ ?_);clear mq;refine aW ?_;refine oa ?_;refine aT ?_;obtain rfl:=some_inj hM;refine aY (uw (fun w hm=>fU Ao hm rfl))
def agY(rV:Nat)(bA:((List (List Word))×Nat×Int)→Option ((List (List Word))×Int×Int))(G5:List (List Word))(rG:Int):Unit→Option ((List (List Word))×Int×Int):=fun _=>
 bq (bJ ((rV:Int)+1))<|
 bA (G5,rV+1,(rG+1))
def Wz(rG:Int)(rV:Nat)(bA:((List (List Word))×Nat×Int)→Option ((List (List Word))×Int×Int)):(List (List Word))→Option ((List (List Word))×Int×Int):=fun G5=>
 bq (bJ (rG+1))<|
 agY rV bA G5 rG ()
def agZ(qK:Str)(bg:Int)(rG:Int)(rV:Nat)(oO:List (List Word))(bA:((List (List Word))×Nat×Int)→Option ((List (List Word))×Int×Int)):Unit→Option ((List (List Word))×Int×Int):=fun _=>
 (BH qK bg rG).bind fun q9=>
 (abW q9 (rV:Int)).bind fun eU=>
 if decide (eU.2≠0) then
  (some (([]:List (List Word)),(rV:Int),eU.2))
 else
  (if decide (0<(eU.1.length:Int)) then
   (bq (decide ((oO.length+([eU.1]:List (List Word)).length)*24≤140737488355328))<|
   Wz rG rV bA (oO++([eU.1]:List (List Word))))
  else
   (Wz rG rV bA oO))
def agW(qK:Str)(bg:Int)(rV:Nat)(oO:List (List Word))(bA:((List (List Word))×Nat×Int)→Option ((List (List Word))×Int×Int))(fE:Int→Option ((List (List Word))×Int×Int)):Int→Option ((List (List Word))×Int×Int):=fun rG=>
 (fK (decide (rG<(qK.l.length:Int))) 0 (pK qK rG)).bind fun c5=>
 if (decide (rG<(qK.l.length:Int))&&decide (c5≠10)) then
  (bq (bJ (rG+1))<|
  fE (rG+1))
 else
  (agZ qK bg rG rV oO bA ())
def agX(oO:List (List Word)):Unit→Option ((List (List Word))×Int×Int):=fun _=>
 some (oO,0,0)
def agV(qK:Str)(bA:((List (List Word))×Nat×Int)→Option ((List (List Word))×Int×Int)):((List (List Word))×Nat×Int)→Option ((List (List Word))×Int×Int):=fun (oO,rV,bg)=>
 if decide (bg<(qK.l.length:Int)) then
  (iter (agW qK bg rV oO bA) FUEL bg)
 else
  (agX oO ())
def abK(qK:Str):Option ((List (List Word))×Int×Int):=
 if decide (65536<(qK.l.length:Int)) then
  (some (([]:List (List Word)),0,7))
 else
  (iter (agV qK) FUEL (([]:List (List Word)),1,0))
theorem aqd(S:bO)(w:World)(qK:Str)(y:(List (List Word))×Int×Int)(hM:abK qK=some y)(hS:sB S w):
   Calls Tryz.prog 70 #[.string qK.ba] w (Post (β:=(aC.R (List (List Word)))) S [] (fun g=> .tuple #[sL g y.1,vI y.2.1,vI y.2.2]) (fun g=>[aj 105 g y.1]) w):=by
 refine cu (args:=[_]) Tryz.func70 rfl ((pre_nil hS).start) rfl ?_;unfold abK at hM;refine sr ?_;refine oa ?_;refine oa ?_;refine aT ?_;refine aK fun K2 hK2=>?_;refine aW ?_;refine oe vO ?_;refine oe gM ?_;refine on ?_;refine cc rfl hM (fun hc1 hM=>?_) (fun hc1 hM=>?_)
 ·refine sr ?_;refine oa ?_;refine oa ?_;refine aT ?_;refine cZ (fun w hm=>hm.dR (α:=List Word) 105 (fun _=>M4)) ?_;obtain rfl:=some_inj hM;refine aY (yT (fun w hm=>fU abg hm rfl))
 refine aX (hK2 _ _ ?_);clear hK2;refine bI ?_;refine bI ?_;refine aK fun K7 eu=>?_;refine bI ?_;refine bH ?_;refine cZ (fun w hm=>hm.dR (α:=List Word) 105 (fun _=>M4)) ?_;refine lp abg hM (fun (oO,rV,bg) xk=>[(0,.v (.string qK.ba)),(5,eS xk oO),(6,eI (rV:Int)),(7,eI bg)]) (fun (oO,rV,bg) xk=>[aj 105 xk oO]) sS rI ?_;clear hM;rintro bA ⟨oO,rV,bg⟩ xk hM iG hL1;dsimp only[agV] at hM ⊢;refine aK fun K9 gB=>?_;refine aW ?_;refine om ?_;refine oe vO ?_;refine oe bY ?_;refine on ?_;refine cc rfl hM (fun hc4 hM=>?_) (fun hc4 hM=>?_)
 ·refine aX (gB _ _ ?_);clear gB;refine aK fun rQ gG=>?_;refine bH ?_;refine aW ?_;refine aT ?_;refine aK fun yD jO=>?_;refine bH ?_;refine lq hM (fun rG=>[(0,.v (.string qK.ba)),(5,eS xk oO),(6,eI (rV:Int)),(7,eI bg),(8,eI rG)]) (fun rG=>[aj 105 xk oO]) sS rI ?_;clear hM;rintro fE rG hM wH hL2;dsimp only[agW] at hM ⊢;refine aK fun BN mq=>?_;refine aW ?_;refine om ?_;refine oe vO ?_;refine oe bY ?_;refine om ?_;refine aD rfl aL ?_;refine aD rfl aL ?_;obtain⟨c5,ZK,hM⟩:=bind_some hM;refine aD rfl (tT (eF ZK)) ?_;refine aD rfl gZ ?_;refine oe dG ?_;refine on ?_;refine cc rfl hM (fun oJ hM=>?_) (fun oJ hM=>?_)
  · refine aX (mq _ _ ?_);clear mq;refine bH ?_;refine bB ?_;refine om ?_;refine oP hM fun hM=>?_;refine oa ?_;refine bC (hL2 hM sS rI)
  refine dK (jO _ _ ?_);clear jO;dsimp only[agZ] at hM;refine aW ?_;refine om ?_;refine om ?_;obtain⟨q9,QD,hM⟩:=bind_some hM;refine oe (Jp (ol:=some (.i64,bg)) (oh:=some (.i64,rG)) (fun _=>QD)) ?_;refine om ?_;obtain⟨eU,vV,hM⟩:=bind_some hM;refine bM (fJ jM.nil (fun S w hs hP=>aqj _ w q9 (rV:Int) eU vV (bf hs)) gq (fun sO=>?_));dsimp only[cA,nA];refine om ?_;refine oe (jv (vs:=[sL sO eU.1,vI eU.2])) ?_;refine oe (jv (vs:=[sL sO eU.1,vI eU.2])) ?_;refine oa ?_;refine aT ?_;refine aK fun LA sI=>?_;refine aW ?_;refine oe gZ ?_;refine on ?_;refine cc rfl hM (fun vT hM=>?_) (fun vT hM=>?_)
  · refine aW ?_;refine om ?_;refine oa ?_;refine oa ?_;refine aT ?_;refine cZ (fun w hm=>hm.dR (α:=List Word) 105 (fun _=>M4)) ?_;obtain rfl:=some_inj hM;refine aY (yT (fun w hm=>fU abg hm rfl))
  refine aX (sI _ _ ?_);clear sI;refine jn (SR (aC.R (List Word))) y (k:=Wz rG rV bA) (fun G5 Tx=>[(0,.v (.string qK.ba)),(5,eS Tx G5),(6,eI (rV:Int)),(8,eI rG)]) (fun G5 Tx=>[aj 105 Tx G5]) ?_ ?_
  · intro UM xP;refine aW ?_;refine oe bL ?_;refine oe gM ?_;refine on ?_;refine cc rfl hM (fun hc18 hM=>?_) (fun hc18 hM=>?_)
    ·refine bB ?_;refine om ?_;refine om ?_;refine mU (fun w hm=>hm.freeze (r:=sO) uA) ?_;refine bM (fD (α:=List Word) 105 (fun _=>sO) ([eU.1]:List (List Word)) (mg.cons (fun S w hs=>(kI hs)) mg.nil) (fun yc=>?_));obtain⟨Qv,hM⟩:=bW hM;refine bM (jc (r:=xk) (r2:=yc) uR (Kn.aj (e:=105) (r:=yc) hA) (mg.row (e:=105) (r:=yc) hA) (of_decide_eq_true Qv) (fun dS=>?_));refine oa ?_;refine bC (xP dS hM sS rI)
    refine aX (xP xk hM sS rI)
  clear hM;rintro G5 Tx hM;dsimp only[Wz] at hM ⊢;refine bB ?_;refine om ?_;refine oP hM fun hM=>?_;refine oa ?_;refine bC (gG _ _ ?_);clear gG;dsimp only[agY] at hM;refine bB ?_;refine om ?_;refine oP hM fun hM=>?_;refine oa ?_;refine bC (hL1 Tx hM sS rI)
 refine dK (eu _ _ ?_);clear eu;dsimp only[agX] at hM;refine aW ?_;refine oa ?_;refine oa ?_;refine aT ?_;obtain rfl:=some_inj hM;refine aY (yT (fun w hm=>fU xk hm rfl))
def ag2(jl:Int)(BG:Int):Unit→Option (Int×Bool):=fun _=>
 if decide (1099511627776<jl) then
  (some (0,false))
 else
  (bq (bJ (BG*jl))<|
  some ((BG*jl),true))
def ag1(xw:Str)(BG:Int)(bA:(Int×Nat)→Option (Int×Bool)):(Int×Nat)→Option (Int×Bool):=fun (jl,bg)=>
 if decide ((bg:Int)<(xw.l.length:Int)) then
  ((pK xw (bg:Int)).bind fun c5=>
  (SA c5).bind fun y7=>
  if (!y7) then
   (some (0,false))
  else
   (bq (bJ (10*jl))<|
   (pK xw (bg:Int)).bind fun c11=>
   bq (bJ ((10*jl)+(IntKind.i64.wrap (IntKind.u8.wrap (c11-48)))))<|
   bq (bJ ((bg:Int)+1))<|
   bA (((10*jl)+(IntKind.i64.wrap (IntKind.u8.wrap (c11-48)))),bg+1)))
 else
  (ag2 jl BG ())
def WA:(Str×Int)→Option (Int×Bool):=fun (xw,BG)=>
 (fK (!(decide ((xw.l.length:Int)<1)||decide (13<(xw.l.length:Int)))) 0 (pK xw 0)).bind fun c1=>
 if ((decide ((xw.l.length:Int)<1)||decide (13<(xw.l.length:Int)))||(decide (c1=48)&&(decide (1<(xw.l.length:Int))||decide (BG<0)))) then
  (some (0,false))
 else
  (iter (ag1 xw BG) FUEL (0,0))
def Sw(s0:Str):Option (Int×Bool):=
 (fK (decide (0<(s0.l.length:Int))) 0 (pK s0 0)).bind fun c17=>
 if (decide (0<(s0.l.length:Int))&&decide (c17=45)) then
  ((BH s0 1 (s0.l.length:Int)).bind fun R6=>
  WA (R6,(-1)))
 else
  (WA (s0,1))
theorem abM(S:bO)(w:World)(s0:Str)(y:Int×Bool)(hM:Sw s0=some y)(hS:sB S w):
   Calls Tryz.prog 171 #[.string s0.ba] w (dz w (.tuple #[vI y.1,.bool y.2])):=by
 refine cu (args:=[_]) Tryz.func171 rfl ((pre_nil hS).start) rfl ?_;unfold Sw at hM;refine sr ?_;refine oa ?_;refine aT ?_;refine aW ?_;refine oa ?_;refine aT ?_;refine jm y (k:=WA) (fun (xw,BG)=>[(4,.v (.string xw.ba)),(5,eI BG)]) (fun (xw,BG)=>[]) ?_ ?_
 ·intro zB fu;refine aW ?_;refine oe vO ?_;refine oe gM ?_;refine om ?_;refine aD rfl aL ?_;obtain⟨c17,al9,hM⟩:=bind_some hM;refine aD rfl (tT (eF al9)) ?_;refine aD rfl dU ?_;refine oe dG ?_;refine on ?_;refine cc rfl hM (fun hc19 hM=>?_) (fun hc19 hM=>?_)
  · refine bB ?_;refine om ?_;obtain⟨R6,Z0,hM⟩:=bind_some hM;refine oe (Jp (ol:=some (.i64,1)) (oh:=none) (fun _=>Z0)) ?_;refine oa ?_;refine oa ?_;refine bC (fu hM sS rI)
  refine aX (fu hM sS rI)
 clear hM;rintro⟨xw,BG⟩ hM;dsimp only[WA] at hM ⊢;refine aK fun K3 hK3=>?_;refine aW ?_;refine oe vO ?_;refine oe bY ?_;refine om ?_;refine aD rfl aL ?_;refine aD rfl vO ?_;refine aD rfl gM ?_;refine oe dQ ?_;refine om ?_;refine aD rfl aL ?_;obtain⟨c1,QA,hM⟩:=bind_some hM;refine aD rfl (tT (eF QA)) ?_;refine aD rfl dU ?_;refine aD rfl aL ?_;refine aD rfl aL ?_;refine aD rfl vO ?_;refine aD rfl gM ?_;refine aD rfl aL ?_;refine aD rfl aL ?_;refine aD rfl bY ?_;refine aD rfl dQ ?_;refine aD rfl dG ?_;refine oe dQ ?_;refine on ?_;refine cc rfl hM (fun hc3 hM=>?_) (fun hc3 hM=>?_)
 ·refine sr ?_;refine oa ?_;refine aT ?_;exact aY (zk hM)
 refine aX (hK3 _ _ ?_);clear hK3;refine bI ?_;refine aK fun K7 eu=>?_;refine bI ?_;refine bH ?_;refine lq hM (fun (jl,bg)=>[(4,.v (.string xw.ba)),(5,eI BG),(6,eI jl),(7,eI (bg:Int))]) (fun (jl,bg)=>[]) sS rI ?_;clear hM;rintro bA ⟨jl,bg⟩ hM iG hL1;dsimp only[ag1] at hM ⊢;refine aK fun K9 gB=>?_;refine aW ?_;refine om ?_;refine oe vO ?_;refine oe bY ?_;refine on ?_;refine cc rfl hM (fun hc4 hM=>?_) (fun hc4 hM=>?_)
 ·refine aX (gB _ _ ?_);clear gB;refine aK fun rQ gG=>?_;refine bH ?_;refine aK fun zy jY=>?_;refine aW ?_;refine om ?_;obtain⟨c5,ZK,hM⟩:=bind_some hM;refine oe (tT (fun _=>ZK)) ?_;obtain⟨y7,Fz,hM⟩:=bind_some hM;refine cv (fun hs=>ag7 _ _ c5 y7 Fz (bf hs)) ?_;refine oe fq ?_;refine on ?_;refine cc rfl hM (fun qV hM=>?_) (fun qV hM=>?_)
  · refine sr ?_;refine oa ?_;refine aT ?_;exact aY (zk hM)
  refine aX (jY _ _ ?_);clear jY;refine bB ?_;refine om ?_;obtain⟨ake,hM⟩:=bW hM;refine oe (tQ (hr:=fun hg=>dY ake)) ?_;refine om ?_;refine om ?_;obtain⟨c11,Qz,hM⟩:=bind_some hM;refine oe (tT (fun _=>Qz)) ?_;refine oe ad8 ?_;refine oe (GI .i64) ?_;refine oP hM fun hM=>?_;refine oa ?_;refine bC (gG _ _ ?_);clear gG;refine bB ?_;refine om ?_;refine oP hM fun hM=>?_;refine oa ?_;refine bC (hL1 hM sS rI)
 refine dK (eu _ _ ?_);clear eu;dsimp only[ag2] at hM;refine aK fun zA jZ=>?_;refine aW ?_;refine oe gM ?_;refine on ?_;refine cc rfl hM (fun xQ hM=>?_) (fun xQ hM=>?_)
 ·refine sr ?_;refine oa ?_;refine aT ?_;exact aY (zk hM)
 refine aX (jZ _ _ ?_);clear jZ;refine aW ?_;refine om ?_;obtain⟨akx,hM⟩:=bW hM;refine oe (tQ (hr:=fun hg=>dY akx)) ?_;refine oa ?_;refine aT ?_;exact aY (zk hM)
def ag6:Unit→Option Int:=fun _=>
 some (-1)
def ag5(l0:List Str)(s0:Str)(bA:Nat→Option Int):Nat→Option Int:=fun bg=>
 if decide ((bg:Int)<(l0.length:Int)) then
  ((idx l0 (bg:Int)).bind fun x2=>
  if decide (x2=s0) then
   (some (bg:Int))
  else
   (bq (bJ ((bg:Int)+1))<|
   bA (bg+1)))
 else
  (ag6 ())
def NQ(l0:List Str)(s0:Str):Option Int:=
 iter (ag5 l0 s0) FUEL 0
theorem WB(S:bO)(w:World)(l0:List Str)(ay:aC.R (List Str))(s0:Str)(y:Int)(hM:NQ l0 s0=some y)(hS:sB S w)(dZ:aC.ok S w ay l0):
   Calls Tryz.prog 172 #[sL ay l0,.string s0.ba] w (dz w (vI y)):=by
 refine cu (args:=[_,_]) Tryz.func172 rfl ((pre_nil hS).start |>.gW (α:=List Str) (r:=ay) (x:=l0) dZ) rfl ?_;unfold NQ at hM;refine bI ?_;refine aK fun K2 hK2=>?_;refine bI ?_;refine bH ?_;refine lq hM (fun bg=>[(0,eS ay l0),(1,.v (.string s0.ba)),(5,eI (bg:Int))]) (fun bg=>[iL l0 ay]) sS rI ?_;clear hM;rintro bA bg hM iG hL1;dsimp only[ag5] at hM ⊢;refine aK fun K4 hK4=>?_;refine aW ?_;refine om ?_;refine oe bL ?_;refine oe bY ?_;refine on ?_;refine cc rfl hM (fun hc1 hM=>?_) (fun hc1 hM=>?_)
 ·refine aX (hK4 _ _ ?_);clear hK4;refine aK fun K6 dn=>?_;refine bH ?_;refine aW ?_;refine om ?_;obtain⟨x2,hx3,hM⟩:=bind_some hM;refine oe (bD (xs:=l0) 1 (kG l0 ay) (iS hx3)) ?_;refine oe (bT (i:=(bg:Int)) (xs:=l0) (y:=x2) 0 (kG l0 ay) (fun _=>hx3)) ?_;refine om ?_;refine oe xJ ?_;refine on ?_;refine cc rfl hM (fun hc4 hM=>?_) (fun hc4 hM=>?_)
  · refine aW ?_;refine aT ?_;exact aY (bQ hM)
  refine aX (dn _ _ ?_);clear dn;refine bB ?_;refine om ?_;refine oP hM fun hM=>?_;refine oa ?_;refine bC (hL1 hM sS rI)
 refine dK (hK2 _ _ ?_);clear hK2;dsimp only[ag6] at hM;refine bI ?_;exact aY (bQ hM)
def WC(l0:Layout)(rP:Word)(y3:Int×Bool)(y7:Int×Bool)(eU:Int×Bool):Int→Option (Int×(List Section)):=fun FV=>
 bq (decide ((l0.Sections.length+([(Section.mk rP.Text y3.1 y7.1 eU.1 FV)]:List Section).length)*48≤140737488355328))<|
 some (0,(l0.Sections++([(Section.mk rP.Text y3.1 y7.1 eU.1 FV)]:List Section)))
def abQ(l0:Layout)(p1:List Word):Option (Int×(List Section)):=
 (idx p1 2).bind fun x1=>
 (Sw x1.Text).bind fun y3=>
 (idx p1 3).bind fun x5=>
 (Sw x5.Text).bind fun y7=>
 (idx p1 4).bind fun x9=>
 (Sw x9.Text).bind fun eU=>
 (fK ((!(((!y3.2)||(!y7.2))||(!eU.2)))&&decide ((p1.length:Int)=7)) default (idx p1 5)).bind fun l7=>
 if ((((!y3.2)||(!y7.2))||(!eU.2))||(decide ((p1.length:Int)=7)&&(!decide (l7.Text=(⟨[97,116]⟩:Str))))) then
  (some (2,l0.Sections))
 else
  ((idx p1 1).bind fun rP=>
  if decide ((p1.length:Int)=7) then
   ((idx p1 6).bind fun x23=>
   (NQ l0.aU x23.Text).bind fun y25=>
   if decide (y25<0) then
    (some (3,l0.Sections))
   else
    (WC l0 rP y3 y7 eU y25))
  else
   (WC l0 rP y3 y7 eU (-1)))
theorem aqg(S:bO)(w:World)(kC:Nat)(l0:Layout)(ay:aC.R Layout)(p1:List Word)(gP:aC.R (List Word))(y:Int×(List Section))(hM:abQ l0 p1=some y)(hP:Pre S [own kC 26 (cK l0 ay),aj 9 ay.1 l0.aU,aj 9 ay.2.1 l0.bG,aj 81 ay.2.2.1 l0.Sections,aj 183 ay.2.2.2 l0.Links] w)(Qt:aC.ok S w gP p1):
   Calls Tryz.prog 131 #[vP kC,sL gP p1] w (Post (β:=(SR (aC.R Section))) S [own kC 26 (cK l0 ay),aj 9 ay.1 l0.aU,aj 9 ay.2.1 l0.bG,aj 81 ay.2.2.1 l0.Sections,aj 183 ay.2.2.2 l0.Links] (fun g=>vI y.1) (fun g=>[own kC 26 [sL ay.1 l0.aU,sL ay.2.1 l0.bG,sL g y.2,sL ay.2.2.2 l0.Links],aj 9 ay.1 l0.aU,aj 9 ay.2.1 l0.bG,aj 81 g y.2,aj 183 ay.2.2.2 l0.Links]) w):=by
 refine cu (args:=[_,_]) Tryz.func131 rfl (hP.start |>.gW (α:=List Word) (r:=gP) (x:=p1) Qt) rfl ?_;unfold abQ at hM;refine bI ?_;refine aW ?_;obtain⟨x1,hx2,hM⟩:=bind_some hM;refine oe (bD (xs:=p1) 3 (kG p1 gP) (iS hx2)) ?_;refine oe (av 0) ?_;refine oe (bT (i:=2) (xs:=p1) (y:=x1) 0 (kG p1 gP) (fun _=>hx2)) ?_;obtain⟨y3,hy4,hM⟩:=bind_some hM;refine cv (fun hs=>abM _ _ x1.Text y3 hy4 (bf hs)) ?_;refine om ?_;refine oe (jv (vs:=[vI y3.1,.bool y3.2])) ?_;refine oe (jv (vs:=[vI y3.1,.bool y3.2])) ?_;refine oa ?_;refine aT ?_;refine aW ?_;obtain⟨x5,hx6,hM⟩:=bind_some hM;refine oe (bD (xs:=p1) 3 (kG p1 gP) (iS hx6)) ?_;refine oe (av 0) ?_;refine oe (bT (i:=3) (xs:=p1) (y:=x5) 0 (kG p1 gP) (fun _=>hx6)) ?_;obtain⟨y7,Fz,hM⟩:=bind_some hM;refine cv (fun hs=>abM _ _ x5.Text y7 Fz (bf hs)) ?_
 refine om ?_;refine oe (jv (vs:=[vI y7.1,.bool y7.2])) ?_;refine oe (jv (vs:=[vI y7.1,.bool y7.2])) ?_;refine oa ?_;refine aT ?_;refine aW ?_;obtain⟨x9,ni,hM⟩:=bind_some hM;refine oe (bD (xs:=p1) 3 (kG p1 gP) (iS ni)) ?_;refine oe (av 0) ?_;refine oe (bT (i:=4) (xs:=p1) (y:=x9) 0 (kG p1 gP) (fun _=>ni)) ?_;obtain⟨eU,vV,hM⟩:=bind_some hM;refine cv (fun hs=>abM _ _ x9.Text eU vV (bf hs)) ?_;refine om ?_;refine oe (jv (vs:=[vI eU.1,.bool eU.2])) ?_;refine oe (jv (vs:=[vI eU.1,.bool eU.2])) ?_;refine oa ?_;refine aT ?_;refine aK fun K5 dI=>?_;refine aW ?_;refine oe fq ?_;refine om ?_;refine aD rfl aL ?_;refine aD rfl fq ?_;refine oe dQ ?_;refine om ?_;refine aD rfl aL ?_;refine aD rfl fq ?_;refine oe dQ ?_;refine om ?_;refine aD rfl aL ?_;refine aD rfl bL ?_;refine aD rfl dU ?_;refine aD rfl aL ?_;refine aD rfl aL ?_;obtain⟨l7,uT,hM⟩:=bind_some hM
 refine aD rfl (bD (xs:=p1) 3 (kG p1 gP) (fun hg=>let h:=nH (eF uT hg);⟨h.1,h.2.1⟩)) ?_;refine aD rfl (av 0) ?_;refine aD rfl (bT (i:=5) (xs:=p1) (y:=l7) 0 (kG p1 gP) (fun hg=>eF uT hg)) ?_;refine aD rfl P8 ?_;refine aD rfl dG ?_;refine oe dQ ?_;refine on ?_;refine cc rfl hM (fun xQ hM=>?_) (fun xQ hM=>?_)
 ·refine bI ?_;obtain rfl:=some_inj hM;refine aY (mD (fun w hm=>fU ay.2.2.1 hm rfl))
 refine aX (dI _ _ ?_);clear dI;refine aW ?_;obtain⟨rP,JD,hM⟩:=bind_some hM;refine oe (bD (xs:=p1) 3 (kG p1 gP) (iS JD)) ?_;refine oe (av 0) ?_;refine oe (bT (i:=1) (xs:=p1) (y:=rP) 0 (kG p1 gP) (fun _=>JD)) ?_;refine om ?_;refine om ?_;refine om ?_;refine oe (gI [.string rP.Text.ba,vI y3.1,vI y7.1,vI eU.1,vI (-1)]) ?_;refine oA rfl fun b18=>?_;refine oS b18 [.string rP.Text.ba,vI y3.1,vI y7.1,vI eU.1,vI (-1)] ?_;refine on ?_;refine jm y (k:=WC l0 rP y3 y7 eU) (fun FV=>[(0,eP kC),(11,eP b18)]) (fun FV=>[aj 9 ay.1 l0.aU,aj 9 ay.2.1 l0.bG,aj 81 ay.2.2.1 l0.Sections,aj 183 ay.2.2.2 l0.Links,own kC 26 (cK l0 ay),own b18 81 [.string rP.Text.ba,vI y3.1,vI y7.1,vI eU.1,vI FV]]) ?_ ?_
 ·intro zB fu;refine aW ?_;refine oe bL ?_;refine oe dU ?_;refine on ?_;refine cc rfl hM (fun hc22 hM=>?_) (fun hc22 hM=>?_)
  · refine aK fun zy jY=>?_;refine iW [own b18 81 [.string rP.Text.ba,vI y3.1,vI y7.1,vI eU.1,vI (-1)],iL p1 gP,own kC 26 (cK l0 ay),aj 9 ay.1 l0.aU,aj 9 ay.2.1 l0.bG,aj 81 ay.2.2.1 l0.Sections,aj 183 ay.2.2.2 l0.Links] 10 ?_;refine aG 0 rfl aL ?_;refine aG 1 rfl fI ?_;refine aG 2 rfl (av 0) ?_;refine aG 3 rfl (aF (b:=kC)) ?_;refine aG 4 rfl aL ?_;obtain⟨x23,hx24,hM⟩:=bind_some hM;refine aG 5 rfl (bD (xs:=p1) 3 (kG p1 gP) (iS hx24)) ?_;refine aG 6 rfl (av 0) ?_;refine aG 7 rfl (bT (i:=6) (xs:=p1) (y:=x23) 0 (kG p1 gP) (fun _=>hx24)) ?_;obtain⟨y25,Fx,hM⟩:=bind_some hM;refine dA 8 rfl (sV (fun hs=>WB _ _ l0.aU ay.1 x23.Text y25 Fx (bf hs) (kT hs)) ⟨rI,?_⟩);refine aG 9 rfl (av 4) ?_;refine iQ rfl (iD (b:=b18) (l':=[.string rP.Text.ba,vI y3.1,vI y7.1,vI eU.1,vI y25]) (k:=?_));refine iP (jY _ _ ?_);clear jY;refine sr ?_;refine oe (av 4) ?_
    refine oe (aF (b:=b18)) ?_;refine oe bY ?_;refine on ?_;refine cc rfl hM (fun hc27 hM=>?_) (fun hc27 hM=>?_)
    ·refine bI ?_;obtain rfl:=some_inj hM;refine aY (mD (fun w hm=>fU ay.2.2.1 hm rfl))
    refine aX (fu hM sS rI)
  refine aX (fu hM sS rI)
 clear hM;rintro FV hM;dsimp only[WC] at hM ⊢;refine aK fun K9 gB=>?_;refine iW [aj 9 ay.1 l0.aU,aj 9 ay.2.1 l0.bG,aj 183 ay.2.2.2 l0.Links,own kC 26 (cK l0 ay),own b18 81 [.string rP.Text.ba,vI y3.1,vI y7.1,vI eU.1,vI FV]] 10 ?_;refine aG 0 rfl aL ?_;refine aG 1 rfl aL ?_;refine aG 2 rfl fI ?_;refine aG 3 rfl (av 2) ?_;refine aG 4 rfl (aF (b:=kC)) ?_;refine aG 5 rfl (bR (b:=b18)) ?_;refine dA 6 rfl (fD (α:=Section) 81 (fun _=>()) ([(Section.mk rP.Text y3.1 y7.1 eU.1 FV)]:List Section) oF (fun yc=>⟨rI,?_⟩));obtain⟨Qv,hM⟩:=bW hM;refine dA 7 rfl (jc (r:=ay.2.2.1) (r2:=yc) uR (Kn.aj (e:=81) (r:=yc) hA) oF (of_decide_eq_true Qv) (fun dS=>⟨rI,?_⟩));refine aG 8 rfl fI ?_;refine aG 9 rfl (av 2) ?_;refine iQ rfl (iD (b:=kC) (l':=[sL ay.1 l0.aU,sL ay.2.1 l0.bG,.slice dS.a ((l0.Sections++([(Section.mk rP.Text y3.1 y7.1 eU.1 FV)]:List Section)).length) dS.cap,sL ay.2.2.2 l0.Links]) (k:=?_));refine iP (gB _ _ ?_);clear gB
 refine bI ?_;obtain rfl:=some_inj hM;refine aY (mD (fun w hm=>fU dS hm rfl))
def WE(s0:Str):Option Int:=
 if decide (s0=(⟨[65]⟩:Str)) then
  (some 0)
 else
  (if decide (s0=(⟨[66]⟩:Str)) then
   (some 1)
  else
   (some (-1)))
theorem SC(S:bO)(w:World)(s0:Str)(y:Int)(hM:WE s0=some y)(hS:sB S w):
   Calls Tryz.prog 173 #[.string s0.ba] w (dz w (vI y)):=by
 refine cu (args:=[_]) Tryz.func173 rfl ((pre_nil hS).start) rfl ?_;unfold WE at hM;refine bI ?_;refine aK fun K2 hK2=>?_;refine aW ?_;refine on ?_;refine bH ?_;refine sr ?_;refine oe xJ ?_;refine aT ?_;refine cc rfl hM (fun hc1 hM=>?_) (fun hc1 hM=>?_)
 ·refine bI ?_;exact aY (bQ hM)
 refine sr ?_;refine oe xJ ?_;refine aT ?_;refine cc rfl hM (fun hc2 hM=>?_) (fun hc2 hM=>?_)
 ·refine bI ?_;exact aY (bQ hM)
 refine aX (hK2 _ _ ?_);clear hK2;refine bI ?_;exact aY (bQ hM)
def Sy(l0:Layout)(y13:Int)(qX:Int)(oZ:Int)(qY:Int):(Int×Int)→Option (Int×(List Link)):=fun (FC,FD)=>
 bq (decide ((l0.Links.length+([(Link.mk y13 qX oZ qY FC FD)]:List Link).length)*48≤140737488355328))<|
 some (0,(l0.Links++([(Link.mk y13 qX oZ qY FC FD)]:List Link)))
def abO(p1:List Word)(l0:Layout):(Int×Int)→Option (Int×(List Link)):=fun (qX,qY)=>
 (fK ((!(decide (qX<0)||decide (qY<0)))&&decide ((p1.length:Int)=7)) default (idx p1 6)).bind fun x1=>
 (fK ((!(decide (qX<0)||decide (qY<0)))&&(decide ((p1.length:Int)=7)&&(!decide (x1.Text=(⟨[48]⟩:Str))))) default (idx p1 6)).bind fun x3=>
 if ((decide (qX<0)||decide (qY<0))||((decide ((p1.length:Int)=7)&&(!decide (x1.Text=(⟨[48]⟩:Str))))&&(!decide (x3.Text=(⟨[49]⟩:Str))))) then
  (some (2,l0.Links))
 else
  ((NV l0).bind fun y6=>
  (idx p1 1).bind fun x9=>
  (idx p1 3).bind fun Ye=>
  (NQ y6 x9.Text).bind fun y13=>
  (NQ y6 Ye.Text).bind fun oZ=>
  if (decide (y13<0)||decide (oZ<0)) then
   (some (3,l0.Links))
  else
   (if decide ((p1.length:Int)=7) then
    ((idx p1 5).bind fun mW=>
    (NQ l0.bG mW.Text).bind fun y24=>
    if decide (y24<0) then
     (some (3,l0.Links))
    else
     ((idx p1 6).bind fun x27=>
     if decide (x27.Text=(⟨[49]⟩:Str)) then
      (Sy l0 y13 qX oZ qY (y24,1))
     else
      (Sy l0 y13 qX oZ qY (y24,0))))
   else
    (Sy l0 y13 qX oZ qY ((-1),0))))
def abP(l0:Layout)(p1:List Word):Option (Int×(List Link)):=
 (idx p1 2).bind fun x30=>
 (idx p1 4).bind fun x32=>
 (WE x30.Text).bind fun y34=>
 (WE x32.Text).bind fun wG=>
 abO p1 l0 (y34,wG)
theorem aqf(S:bO)(w:World)(kC:Nat)(l0:Layout)(ay:aC.R Layout)(p1:List Word)(gP:aC.R (List Word))(y:Int×(List Link))(hM:abP l0 p1=some y)(hP:Pre S [own kC 26 (cK l0 ay),aj 9 ay.1 l0.aU,aj 9 ay.2.1 l0.bG,aj 81 ay.2.2.1 l0.Sections,aj 183 ay.2.2.2 l0.Links] w)(Qt:aC.ok S w gP p1):
   Calls Tryz.prog 132 #[vP kC,sL gP p1] w (Post (β:=(SR (aC.R Link))) S [own kC 26 (cK l0 ay),aj 9 ay.1 l0.aU,aj 9 ay.2.1 l0.bG,aj 81 ay.2.2.1 l0.Sections,aj 183 ay.2.2.2 l0.Links] (fun g=>vI y.1) (fun g=>[own kC 26 [sL ay.1 l0.aU,sL ay.2.1 l0.bG,sL ay.2.2.1 l0.Sections,sL g y.2],aj 9 ay.1 l0.aU,aj 9 ay.2.1 l0.bG,aj 81 ay.2.2.1 l0.Sections,aj 183 g y.2]) w):=by
 refine cu (args:=[_,_]) Tryz.func132 rfl (hP.start |>.gW (α:=List Word) (r:=gP) (x:=p1) Qt) rfl ?_;unfold abP at hM;refine bI ?_;refine jn Nat y (k:=abO p1 l0) (fun (qX,qY) uS=>[(0,eP kC),(1,eS gP p1),(5,eP uS)]) (fun (qX,qY) uS=>[aj 9 ay.1 l0.aU,aj 9 ay.2.1 l0.bG,aj 81 ay.2.2.1 l0.Sections,aj 183 ay.2.2.2 l0.Links,own kC 26 (cK l0 ay),iL p1 gP,own uS 183 [vI 0,vI qX,vI 0,vI qY,vI (-1),vI 0]]) ?_ ?_
 ·intro zB fu;refine gy _ (List.Sublist.refl _) ?_;refine ak 0 rfl aL ?_;obtain⟨x30,hx31,hM⟩:=bind_some hM;refine ak 1 rfl (bD (xs:=p1) 3 (kG p1 gP) (iS hx31)) ?_;refine ak 2 rfl (av 0) ?_;refine ak 3 rfl (bT (i:=2) (xs:=p1) (y:=x30) 0 (kG p1 gP) (fun _=>hx31)) ?_;refine ak 5 rfl aL ?_;obtain⟨x32,JE,hM⟩:=bind_some hM;refine ak 6 rfl (bD (xs:=p1) 3 (kG p1 gP) (iS JE)) ?_;refine ak 7 rfl (av 0) ?_;refine ak 8 rfl (bT (i:=4) (xs:=p1) (y:=x32) 0 (kG p1 gP) (fun _=>JE)) ?_;obtain⟨y34,D9,hM⟩:=bind_some hM;refine mh 4 11 (⟨_,rfl,rfl,lK (fun w hm=>let ⟨S,hs⟩:=hm;SC _ w x30.Text y34 D9 (bf hs)) ⟨rI,?_⟩⟩) (⟨_,rfl,rfl,iw rfl (k:=fun Px=>⟨rI,?_⟩)⟩)
  · obtain⟨wG,hy38,hM⟩:=bind_some hM;refine mh 9 11 (⟨_,rfl,rfl,lK (fun w hm=>let ⟨S,hs⟩:=hm;SC _ w x32.Text wG hy38 (bf hs)) ⟨rI,?_⟩⟩) (⟨_,rfl,rfl,iw rfl (k:=fun Gt=>⟨rI,?_⟩)⟩)
    ·refine ak 10 rfl (gI [vI 0,vI y34,vI 0,vI wG,vI (-1),vI 0]) ?_;refine aA 11 rfl rfl fun DU=>?_;refine aS 12 rfl DU [vI 0,vI y34,vI 0,vI wG,vI (-1),vI 0] ?_;refine dP (fu DU hM sS rI)
    refine dH 9 rfl (sV (fun hs=>SC _ _ x32.Text wG hy38 (bf hs)) ⟨rI,?_⟩);refine ak 10 rfl (gI [vI 0,vI y34,vI 0,vI wG,vI (-1),vI 0]) ?_;refine aS 12 rfl Gt [vI 0,vI y34,vI 0,vI wG,vI (-1),vI 0] ?_;refine dP (fu Gt hM sS rI)
  refine dH 4 rfl (sV (fun hs=>SC _ _ x30.Text y34 D9 (bf hs)) ⟨rI,?_⟩);obtain⟨y41,an9,hM⟩:=bind_some hM;refine dH 9 rfl (sV (fun hs=>SC _ _ x32.Text y41 an9 (bf hs)) ⟨rI,?_⟩);refine ak 10 rfl (gI [vI 0,vI y34,vI 0,vI y41,vI (-1),vI 0]) ?_;refine aS 12 rfl Px [vI 0,vI y34,vI 0,vI y41,vI (-1),vI 0] ?_;refine dP (fu Px hM sS rI)
 clear hM;rintro⟨qX,qY⟩ uS hM;dsimp only[abO] at hM ⊢;refine aK fun K2 hK2=>?_;refine sr ?_;refine oe (av 1) ?_;refine oe (aF (b:=uS)) ?_;refine oe bY ?_;refine om ?_;refine aD rfl (av 3) ?_;refine aD rfl (aF (b:=uS)) ?_;refine aD rfl bY ?_;refine oe dQ ?_;refine om ?_;refine aD rfl aL ?_;refine aD rfl bL ?_;refine aD rfl dU ?_;refine aD rfl aL ?_;refine aD rfl aL ?_;obtain⟨x1,hx2,hM⟩:=bind_some hM;refine aD rfl (bD (xs:=p1) 3 (kG p1 gP) (fun hg=>let h:=nH (eF hx2 hg);⟨h.1,h.2.1⟩)) ?_;refine aD rfl (av 0) ?_;refine aD rfl (bT (i:=6) (xs:=p1) (y:=x1) 0 (kG p1 gP) (fun hg=>eF hx2 hg)) ?_;refine aD rfl P8 ?_;refine aD rfl dG ?_;refine aD rfl aL ?_;refine aD rfl aL ?_;obtain⟨x3,hx4,hM⟩:=bind_some hM;refine aD rfl (bD (xs:=p1) 3 (kG p1 gP) (fun hg=>let h:=nH (eF hx4 hg);⟨h.1,h.2.1⟩)) ?_;refine aD rfl (av 0) ?_;refine aD rfl (bT (i:=6) (xs:=p1) (y:=x3) 0 (kG p1 gP) (fun hg=>eF hx4 hg)) ?_;refine aD rfl P8 ?_;refine aD rfl dG ?_;refine oe dQ ?_
 refine on ?_;refine cc rfl hM (fun jL hM=>?_) (fun jL hM=>?_)
 ·refine bI ?_;obtain rfl:=some_inj hM;refine aY (mD (fun w hm=>fU ay.2.2.2 hm rfl))
 refine aX (hK2 _ _ ?_);clear hK2;refine aW ?_;refine oe fI ?_;refine oe (bR (b:=kC)) ?_;obtain⟨y6,qh,hM⟩:=bind_some hM;refine bM (fJ jM.nil (fun S w hs hP=>ahe _ w l0 ay y6 qh (bf hs) ⟨(kT hs),(kT hs),(kT hs),(kT hs)⟩) gq (fun r8=>?_));dsimp only[cA,nA];refine aT ?_;refine aK fun K6 dn=>?_;refine gy [aj 9 r8 y6,aj 9 ay.1 l0.aU,aj 9 ay.2.1 l0.bG,aj 81 ay.2.2.1 l0.Sections,aj 183 ay.2.2.2 l0.Links,own kC 26 (cK l0 ay),iL p1 gP] (by repeat (first|exact List.Sublist.refl _|apply List.Sublist.cons_cons|apply List.Sublist.cons)) ?_;refine ak 0 rfl aL ?_;refine ak 1 rfl aL ?_;obtain⟨x9,ni,hM⟩:=bind_some hM;refine ak 2 rfl (bD (xs:=p1) 3 (kG p1 gP) (iS ni)) ?_;refine ak 3 rfl (av 0) ?_;refine ak 4 rfl (bT (i:=1) (xs:=p1) (y:=x9) 0 (kG p1 gP) (fun _=>ni)) ?_;refine ak 6 rfl aL ?_;refine ak 7 rfl aL ?_;obtain⟨Ye,aac,hM⟩:=bind_some hM;refine ak 8 rfl (bD (xs:=p1) 3 (kG p1 gP) (iS aac)) ?_
 refine ak 9 rfl (av 0) ?_;refine ak 10 rfl (bT (i:=3) (xs:=p1) (y:=Ye) 0 (kG p1 gP) (fun _=>aac)) ?_;obtain⟨y13,xS,hM⟩:=bind_some hM;refine dH 5 rfl (sV (fun hs=>WB _ _ y6 r8 x9.Text y13 xS (bf hs) (kT hs)) ⟨rI,?_⟩);refine ak 12 rfl (av 0) ?_;obtain⟨oZ,QM,hM⟩:=bind_some hM;refine dH 11 rfl (sV (fun hs=>WB _ _ y6 r8 Ye.Text oZ QM (bf hs) (kT hs)) ⟨rI,?_⟩);refine dH 13 rfl (iD (b:=uS) (l':=[vI y13,vI qX,vI 0,vI qY,vI (-1),vI 0]) (k:=⟨rI,?_⟩));refine ak 14 rfl (av 2) ?_;refine dH 15 rfl (iD (b:=uS) (l':=[vI y13,vI qX,vI oZ,vI qY,vI (-1),vI 0]) (k:=⟨rI,?_⟩));refine dP (dn _ _ ?_);clear dn;refine aK fun K7 eu=>?_;refine sr ?_;refine oe (av 0) ?_;refine oe (aF (b:=uS)) ?_;refine oe bY ?_;refine om ?_;refine aD rfl (av 2) ?_;refine aD rfl (aF (b:=uS)) ?_;refine aD rfl bY ?_;refine oe dQ ?_;refine on ?_;refine cc rfl hM (fun hc17 hM=>?_) (fun hc17 hM=>?_)
 ·refine bI ?_;obtain rfl:=some_inj hM;refine aY (mD (fun w hm=>fU ay.2.2.2 hm rfl))
 refine aX (eu _ _ ?_);clear eu;refine jm y (k:=Sy l0 y13 qX oZ qY) (fun (FC,FD)=>[(0,eP kC),(5,eP uS)]) (fun (FC,FD)=>[aj 9 ay.1 l0.aU,aj 9 ay.2.1 l0.bG,aj 81 ay.2.2.1 l0.Sections,aj 183 ay.2.2.2 l0.Links,own kC 26 (cK l0 ay),own uS 183 [vI y13,vI qX,vI oZ,vI qY,vI FC,vI FD]]) ?_ ?_
 ·intro zC hJ2;refine aW ?_;refine oe bL ?_;refine oe dU ?_;refine on ?_;refine cc rfl hM (fun hc21 hM=>?_) (fun hc21 hM=>?_)
  · refine aK fun yD jO=>?_;refine iW [aj 9 r8 y6,aj 9 ay.1 l0.aU,aj 9 ay.2.1 l0.bG,aj 81 ay.2.2.1 l0.Sections,aj 183 ay.2.2.2 l0.Links,own kC 26 (cK l0 ay),iL p1 gP,own uS 183 [vI y13,vI qX,vI oZ,vI qY,vI (-1),vI 0]] 10 ?_;refine aG 0 rfl aL ?_;refine aG 1 rfl fI ?_;refine aG 2 rfl (av 1) ?_;refine aG 3 rfl (aF (b:=kC)) ?_;refine aG 4 rfl aL ?_;obtain⟨mW,GR,hM⟩:=bind_some hM;refine aG 5 rfl (bD (xs:=p1) 3 (kG p1 gP) (iS GR)) ?_;refine aG 6 rfl (av 0) ?_;refine aG 7 rfl (bT (i:=5) (xs:=p1) (y:=mW) 0 (kG p1 gP) (fun _=>GR)) ?_;obtain⟨y24,hy25,hM⟩:=bind_some hM;refine dA 8 rfl (sV (fun hs=>WB _ _ l0.bG ay.2.1 mW.Text y24 hy25 (bf hs) (kT hs)) ⟨rI,?_⟩);refine aG 9 rfl (av 4) ?_;refine iQ rfl (iD (b:=uS) (l':=[vI y13,vI qX,vI oZ,vI qY,vI y24,vI 0]) (k:=?_));refine iP (jO _ _ ?_);clear jO;refine aK fun BN mq=>?_;refine aK fun zA jZ=>?_
    refine bB ?_;refine oe (av 4) ?_;refine oe (aF (b:=uS)) ?_;refine oe bY ?_;refine bC (jZ _ _ ?_);clear jZ;refine cc rfl hM (fun ZE hM=>?_) (fun ZE hM=>?_)
    ·refine bI ?_;obtain rfl:=some_inj hM;refine aY (mD (fun w hm=>fU ay.2.2.2 hm rfl))
    refine aX (mq _ _ ?_);clear mq;refine aW ?_;obtain⟨x27,hx28,hM⟩:=bind_some hM;refine oe (bD (xs:=p1) 3 (kG p1 gP) (iS hx28)) ?_;refine oe (av 0) ?_;refine oe (bT (i:=6) (xs:=p1) (y:=x27) 0 (kG p1 gP) (fun _=>hx28)) ?_;refine oe xJ ?_;refine on ?_;refine cc rfl hM (fun hc29 hM=>?_) (fun hc29 hM=>?_)
    ·refine bB ?_;refine oe (av 5) ?_;refine bM (iD (b:=uS) (l':=[vI y13,vI qX,vI oZ,vI qY,vI y24,vI 1]) (k:=?_));refine bC (hJ2 hM sS rI)
    refine aX (hJ2 hM sS rI)
  refine aX (hJ2 hM sS rI)
 clear hM;rintro⟨FC,FD⟩ hM;dsimp only[Sy] at hM ⊢;refine aK fun tK gU=>?_;refine iW [aj 9 ay.1 l0.aU,aj 9 ay.2.1 l0.bG,aj 81 ay.2.2.1 l0.Sections,own kC 26 (cK l0 ay),own uS 183 [vI y13,vI qX,vI oZ,vI qY,vI FC,vI FD]] 10 ?_;refine aG 0 rfl aL ?_;refine aG 1 rfl aL ?_;refine aG 2 rfl fI ?_;refine aG 3 rfl (av 3) ?_;refine aG 4 rfl (aF (b:=kC)) ?_;refine aG 5 rfl (bR (b:=uS)) ?_;refine dA 6 rfl (fD (α:=Link) 183 (fun _=>()) ([(Link.mk y13 qX oZ qY FC FD)]:List Link) oF (fun Wp=>⟨rI,?_⟩));obtain⟨Zw,hM⟩:=bW hM;refine dA 7 rfl (jc (r:=ay.2.2.2) (r2:=Wp) uR (Kn.aj (e:=183) (r:=Wp) hA) oF (of_decide_eq_true Zw) (fun yc=>⟨rI,?_⟩));refine aG 8 rfl fI ?_;refine aG 9 rfl (av 3) ?_;refine iQ rfl (iD (b:=kC) (l':=[sL ay.1 l0.aU,sL ay.2.1 l0.bG,sL ay.2.2.1 l0.Sections,.slice yc.a ((l0.Links++([(Link.mk y13 qX oZ qY FC FD)]:List Link)).length) yc.cap]) (k:=?_));refine iP (gU _ _ ?_);clear gU
 refine bI ?_;obtain rfl:=some_inj hM;refine aY (mD (fun w hm=>fU yc hm rfl))
def abR(l0:Layout)(p1:List Word):Option (Int×(List Str)×(List Str)×(List Section)×(List Link)):=
 (fK (decide ((p1.length:Int)=2)) default (idx p1 0)).bind fun x1=>
 if (decide ((p1.length:Int)=2)&&decide (x1.Text=(⟨[115,116,97,116,105,111,110]⟩:Str))) then
  ((idx p1 1).bind fun x4=>
  bq (decide ((l0.aU.length+([x4.Text]:List Str).length)*16≤140737488355328))<|
  some (0,(l0.aU++([x4.Text]:List Str)),l0.bG,l0.Sections,l0.Links))
 else
  ((fK (decide ((p1.length:Int)=2)) default (idx p1 0)).bind fun x9=>
  if (decide ((p1.length:Int)=2)&&decide (x9.Text=(⟨[112,111,105,110,116]⟩:Str))) then
   ((idx p1 1).bind fun kL=>
   bq (decide ((l0.bG.length+([kL.Text]:List Str).length)*16≤140737488355328))<|
   some (0,l0.aU,(l0.bG++([kL.Text]:List Str)),l0.Sections,l0.Links))
  else
   ((fK (decide ((p1.length:Int)=5)||decide ((p1.length:Int)=7)) default (idx p1 0)).bind fun jV=>
   if ((decide ((p1.length:Int)=5)||decide ((p1.length:Int)=7))&&decide (jV.Text=(⟨[115,101,99,116,105,111,110]⟩:Str))) then
    ((abQ l0 p1).bind fun y20=>
    some (y20.1,l0.aU,l0.bG,y20.2,l0.Links))
   else
    ((fK (decide ((p1.length:Int)=5)||decide ((p1.length:Int)=7)) default (idx p1 0)).bind fun x23=>
    if ((decide ((p1.length:Int)=5)||decide ((p1.length:Int)=7))&&decide (x23.Text=(⟨[108,105,110,107]⟩:Str))) then
     ((abP l0 p1).bind fun aP=>
     some (aP.1,l0.aU,l0.bG,l0.Sections,aP.2))
    else
     (some (2,l0.aU,l0.bG,l0.Sections,l0.Links)))))
theorem aqh(S:bO)(w:World)(kC:Nat)(l0:Layout)(ay:aC.R Layout)(p1:List Word)(gP:aC.R (List Word))(y:Int×(List Str)×(List Str)×(List Section)×(List Link))(hM:abR l0 p1=some y)(hP:Pre S [own kC 26 (cK l0 ay),aj 9 ay.1 l0.aU,aj 9 ay.2.1 l0.bG,aj 81 ay.2.2.1 l0.Sections,aj 183 ay.2.2.2 l0.Links] w)(Qt:aC.ok S w gP p1):
   Calls Tryz.prog 71 #[vP kC,sL gP p1] w (Post (β:=(SR (aC.R Str))×(SR (aC.R Str))×(SR (aC.R Section))×(SR (aC.R Link))) S [own kC 26 (cK l0 ay),aj 9 ay.1 l0.aU,aj 9 ay.2.1 l0.bG,aj 81 ay.2.2.1 l0.Sections,aj 183 ay.2.2.2 l0.Links] (fun g=>vI y.1) (fun g=>[own kC 26 [sL g.1 y.2.1,sL g.2.1 y.2.2.1,sL g.2.2.1 y.2.2.2.1,sL g.2.2.2 y.2.2.2.2],aj 9 g.1 y.2.1,aj 9 g.2.1 y.2.2.1,aj 81 g.2.2.1 y.2.2.2.1,aj 183 g.2.2.2 y.2.2.2.2]) w):=by
 refine cu (args:=[_,_]) Tryz.func71 rfl (hP.start |>.gW (α:=List Word) (r:=gP) (x:=p1) Qt) rfl ?_;unfold abR at hM;refine bI ?_;refine aK fun K2 hK2=>?_;refine bH ?_;refine aW ?_;refine oe bL ?_;refine oe dU ?_;refine om ?_;refine aD rfl aL ?_;obtain⟨x1,hx2,hM⟩:=bind_some hM;refine aD rfl (bD (xs:=p1) 3 (kG p1 gP) (fun hg=>let h:=nH (eF hx2 hg);⟨h.1,h.2.1⟩)) ?_;refine aD rfl (av 0) ?_;refine aD rfl (bT (i:=0) (xs:=p1) (y:=x1) 0 (kG p1 gP) (fun hg=>eF hx2 hg)) ?_;refine aD rfl xJ ?_;refine oe dG ?_;refine aT ?_;refine cc rfl hM (fun hc3 hM=>?_) (fun hc3 hM=>?_)
 ·refine aK fun K4 hK4=>?_;refine iW [iL p1 gP,own kC 26 (cK l0 ay),aj 9 ay.2.1 l0.bG,aj 81 ay.2.2.1 l0.Sections,aj 183 ay.2.2.2 l0.Links] 13 ?_;refine aG 0 rfl aL ?_;refine aG 1 rfl aL ?_;refine aG 2 rfl fI ?_;refine aG 3 rfl (av 0) ?_;refine aG 4 rfl (aF (b:=kC)) ?_;refine aG 5 rfl aL ?_;obtain⟨x4,hx5,hM⟩:=bind_some hM;refine aG 6 rfl (bD (xs:=p1) 3 (kG p1 gP) (iS hx5)) ?_;refine aG 7 rfl (av 0) ?_;refine aG 8 rfl (bT (i:=1) (xs:=p1) (y:=x4) 0 (kG p1 gP) (fun _=>hx5)) ?_;refine dA 9 rfl (fD (α:=Str) 9 (fun _=>()) ([x4.Text]:List Str) oF (fun r6=>⟨rI,?_⟩));obtain⟨ZA,hM⟩:=bW hM;refine dA 10 rfl (jc (r:=ay.1) (r2:=r6) uR (Kn.aj (e:=9) (r:=r6) hA) oF (of_decide_eq_true ZA) (fun r7=>⟨rI,?_⟩));refine aG 11 rfl fI ?_;refine aG 12 rfl (av 0) ?_;refine iQ rfl (iD (b:=kC) (l':=[.slice r7.a ((l0.aU++([x4.Text]:List Str)).length) r7.cap,sL ay.2.1 l0.bG,sL ay.2.2.1 l0.Sections,sL ay.2.2.2 l0.Links]) (k:=?_))
  refine iP (hK4 _ _ ?_);clear hK4;refine bI ?_;obtain rfl:=some_inj hM;refine aY (mD (fun w hm=>fU (r7,ay.2.1,ay.2.2.1,ay.2.2.2) hm rfl))
 refine aW ?_;refine oe bL ?_;refine oe dU ?_;refine om ?_;refine aD rfl aL ?_;obtain⟨x9,ni,hM⟩:=bind_some hM;refine aD rfl (bD (xs:=p1) 3 (kG p1 gP) (fun hg=>let h:=nH (eF ni hg);⟨h.1,h.2.1⟩)) ?_;refine aD rfl (av 0) ?_;refine aD rfl (bT (i:=0) (xs:=p1) (y:=x9) 0 (kG p1 gP) (fun hg=>eF ni hg)) ?_;refine aD rfl xJ ?_;refine oe dG ?_;refine aT ?_;refine cc rfl hM (fun zL hM=>?_) (fun zL hM=>?_)
 ·refine aK fun K7 eu=>?_;refine iW [iL p1 gP,own kC 26 (cK l0 ay),aj 9 ay.1 l0.aU,aj 81 ay.2.2.1 l0.Sections,aj 183 ay.2.2.2 l0.Links] 13 ?_;refine aG 0 rfl aL ?_;refine aG 1 rfl aL ?_;refine aG 2 rfl fI ?_;refine aG 3 rfl (av 1) ?_;refine aG 4 rfl (aF (b:=kC)) ?_;refine aG 5 rfl aL ?_;obtain⟨kL,Cn,hM⟩:=bind_some hM;refine aG 6 rfl (bD (xs:=p1) 3 (kG p1 gP) (iS Cn)) ?_;refine aG 7 rfl (av 0) ?_;refine aG 8 rfl (bT (i:=1) (xs:=p1) (y:=kL) 0 (kG p1 gP) (fun _=>Cn)) ?_;refine dA 9 rfl (fD (α:=Str) 9 (fun _=>()) ([kL.Text]:List Str) oF (fun dW=>⟨rI,?_⟩));obtain⟨alh,hM⟩:=bW hM;refine dA 10 rfl (jc (r:=ay.2.1) (r2:=dW) uR (Kn.aj (e:=9) (r:=dW) hA) oF (of_decide_eq_true alh) (fun Ai=>⟨rI,?_⟩));refine aG 11 rfl fI ?_;refine aG 12 rfl (av 1) ?_;refine iQ rfl (iD (b:=kC) (l':=[sL ay.1 l0.aU,.slice Ai.a ((l0.bG++([kL.Text]:List Str)).length) Ai.cap,sL ay.2.2.1 l0.Sections,sL ay.2.2.2 l0.Links]) (k:=?_))
  refine iP (eu _ _ ?_);clear eu;refine bI ?_;obtain rfl:=some_inj hM;refine aY (mD (fun w hm=>fU (ay.1,Ai,ay.2.2.1,ay.2.2.2) hm rfl))
 refine aW ?_;refine oe bL ?_;refine oe dU ?_;refine om ?_;refine aD rfl aL ?_;refine aD rfl bL ?_;refine aD rfl dU ?_;refine oe dQ ?_;refine om ?_;refine aD rfl aL ?_;obtain⟨jV,wP,hM⟩:=bind_some hM;refine aD rfl (bD (xs:=p1) 3 (kG p1 gP) (fun hg=>let h:=nH (eF wP hg);⟨h.1,h.2.1⟩)) ?_;refine aD rfl (av 0) ?_;refine aD rfl (bT (i:=0) (xs:=p1) (y:=jV) 0 (kG p1 gP) (fun hg=>eF wP hg)) ?_;refine aD rfl xJ ?_;refine oe dG ?_;refine aT ?_;refine cc rfl hM (fun hc19 hM=>?_) (fun hc19 hM=>?_)
 ·refine aW ?_;refine om ?_;obtain⟨y20,Cq,hM⟩:=bind_some hM;refine bM (fJ sA (fun S w hs hP=>aqg _ w kC l0 ay p1 gP y20 Cq hP (kM hs)) gq (fun Ak=>?_));dsimp only[cA,nA];refine aT ?_;obtain rfl:=some_inj hM;refine aY (mD (fun w hm=>fU (ay.1,ay.2.1,Ak,ay.2.2.2) hm rfl))
 refine aW ?_;refine oe bL ?_;refine oe dU ?_;refine om ?_;refine aD rfl aL ?_;refine aD rfl bL ?_;refine aD rfl dU ?_;refine oe dQ ?_;refine om ?_;refine aD rfl aL ?_;obtain⟨x23,hx24,hM⟩:=bind_some hM;refine aD rfl (bD (xs:=p1) 3 (kG p1 gP) (fun hg=>let h:=nH (eF hx24 hg);⟨h.1,h.2.1⟩)) ?_;refine aD rfl (av 0) ?_;refine aD rfl (bT (i:=0) (xs:=p1) (y:=x23) 0 (kG p1 gP) (fun hg=>eF hx24 hg)) ?_;refine aD rfl xJ ?_;refine oe dG ?_;refine aT ?_;refine cc rfl hM (fun hc25 hM=>?_) (fun hc25 hM=>?_)
 ·refine aW ?_;refine om ?_;obtain⟨aP,hy27,hM⟩:=bind_some hM;refine bM (fJ sA (fun S w hs hP=>aqf _ w kC l0 ay p1 gP aP hy27 hP (kM hs)) gq (fun Kk=>?_));dsimp only[cA,nA];refine aT ?_;obtain rfl:=some_inj hM;refine aY (mD (fun w hm=>fU (ay.1,ay.2.1,ay.2.2.1,Kk) hm rfl))
 refine aX (hK2 _ _ ?_);clear hK2;refine bI ?_;obtain rfl:=some_inj hM;refine aY (mD (fun w hm=>fU (ay.1,ay.2.1,ay.2.2.1,ay.2.2.2) hm rfl))
end Go.Proofs.YtcalibhfgdncaaaGreatDoor

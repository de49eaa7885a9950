/- Models of functions, and that the code computes them. -/
import Derived.Test.YtcalibhfgdncaaaGreatCa
set_option linter.all false
namespace Go.Proofs.YtcalibhfgdncaaaGreat
open Go.Dc Go.RowKit
set_option maxRecDepth 10000
def Tm(aN:((List Bool)×Nat)→Option ((List (List Int))×Int))(sF:Nat):(List Bool)→Option ((List (List Int))×Int):=fun Md=>
 aN (Md,sF+1)
def Tn(cu:((List (List Int))×Int×Nat)→Option ((List (List Int))×Int))(vF:Nat):((List (List Int))×Int)→Option ((List (List Int))×Int):=fun (L8,OD)=>
 cu (L8,OD,vF+1)
def acf(w9:List (List Int))(zW:List Int)(yI:Int)(cu:((List (List Int))×Int×Nat)→Option ((List (List Int))×Int))(vF:Nat):Unit→Option ((List (List Int))×Int):=fun _=>
 aX (decide ((w9.length+([zW]:List (List Int)).length)*24≤140737488355328))<|
 aX (bA (yI+(zW.length:Int)))<|
 Tn cu vF ((w9++([zW]:List (List Int))),(yI+(zW.length:Int)))
def ab9(bY:List Int)(w9:List (List Int))(yI:Int)(cu:((List (List Int))×Int×Nat)→Option ((List (List Int))×Int))(vF:Nat)(gY:((List Int)×Int)→Option ((List (List Int))×Int)):((List Int)×Int)→Option ((List (List Int))×Int):=fun (zW,C8)=>
 if decide (C8≠(-1)) then
  (aX (decide ((zW.length+([C8]:List Int).length)*8≤140737488355328))<|
  (idx bY C8).bind fun x29=>
  gY ((zW++([C8]:List Int)),x29))
 else
  (acf w9 zW yI cu vF ())
def ace(yI:Int)(bY:List Int)(w9:List (List Int)):Unit→Option ((List (List Int))×Int):=fun _=>
 if decide (yI<(bY.length:Int)) then
  (some (([]:List (List Int)),1))
 else
  (some (w9,0))
def ab8(bY:List Int)(qC:List Bool)(cu:((List (List Int))×Int×Nat)→Option ((List (List Int))×Int)):((List (List Int))×Int×Nat)→Option ((List (List Int))×Int):=fun (w9,yI,vF)=>
 if decide ((vF:Int)<(bY.length:Int)) then
  ((idx qC (vF:Int)).bind fun x21=>
  if x21 then
   (Tn cu vF (w9,yI))
  else
   (iter (ab9 bY w9 yI cu vF) FUEL (([]:List Int),(vF:Int))))
 else
  (ace yI bY w9 ())
def acd(bY:List Int)(qC:List Bool):Unit→Option ((List (List Int))×Int):=fun _=>
 iter (ab8 bY qC) FUEL (([]:List (List Int)),0,0)
def ab7(bY:List Int)(aN:((List Bool)×Nat)→Option ((List (List Int))×Int)):((List Bool)×Nat)→Option ((List (List Int))×Int):=fun (qC,sF)=>
 if decide ((sF:Int)<(bY.length:Int)) then
  ((idx bY (sF:Int)).bind fun x8=>
  if decide (x8=(-1)) then
   (Tm aN sF qC)
  else
   ((dW (!(decide (x8<0)||decide ((bY.length:Int)≤x8))) default (idx qC x8)).bind fun qK=>
   if ((decide (x8<0)||decide ((bY.length:Int)≤x8))||qK) then
    (some (([]:List (List Int)),1))
   else
    ((idx qC x8).bind fun iX=>
    Tm aN sF (qC.set x8.toNat true))))
 else
  (acd bY qC ())
def XM(bY:List Int):Option ((List (List Int))×Int):=
 if decide (40<(bY.length:Int)) then
  (some (([]:List (List Int)),1))
 else
  ((mk (α:=Bool) false (bY.length:Int)).bind fun m3=>
  iter (ab7 bY) FUEL (m3,0))
theorem ahT(S:bF)(w:World)(bY:List Int)(gV:ak.R (List Int))(y:(List (List Int))×Int)(hM:XM bY=some y)(hS:sB S w)(FJ:ak.ok S w gV bY):
   Calls Tryz.prog 26 #[sL gV bY] w (Post (β:=(ak.R (List (List Int)))) S [] (fun g=> .tuple #[sL g y.1,vI y.2]) (fun g=>[ah 22 g y.1]) w):=by
 refine bW (args:=[_]) Tryz.func26 rfl ((pre_nil hS).start |>.dZ (α:=List Int) (r:=gV) (x:=bY) FJ) rfl ?_;unfold XM at hM;refine sr ?_;refine oa ?_;refine aL ?_;refine aF fun K2 hK2=>?_;refine aJ ?_;refine oe bf ?_;refine oe eO ?_;refine on ?_;refine cc rfl hM (fun hc1 hM=>?_) (fun hc1 hM=>?_)
 ·refine sr ?_;refine oa ?_;refine aL ?_;refine dJ (fun w hm=>hm.dR (α:=List Int) 22 (fun _=>eB)) ?_;obtain rfl:=some_inj hM;refine aP (nu (fun w hm=>gK iC hm rfl))
 refine aM (hK2 _ _ ?_);clear hK2;refine aJ ?_;refine oe bf ?_;obtain⟨m3,Pv,hM⟩:=bind_some hM;refine aY (yw (α:=Bool) (e:=4) false () Pv (fun _ _=>trivial) (fun r5 hr5=>?_));refine aL ?_;refine aF fun K6 bU=>?_;refine aJ ?_;refine gU (fun w hm=>Kn.len (kG bY gV) hm) fun Ud=>?_;refine oe bf ?_;refine om ?_;refine on ?_;refine aV ?_;refine lq hM (fun (qC,sF)=>[(0,eS gV bY),(4,eS r5 qC),(18,eS gV bY),(19,eI (bY.length:Int)),(20,eI (sF:Int))]) (fun (qC,sF)=>[iL bY gV,ah 4 r5 qC]) sS rI ?_;clear hM;rintro aN ⟨qC,sF⟩ hM fQ hL1;dsimp only[ab7] at hM ⊢;refine sr ?_;refine oe bK ?_;refine on ?_;refine aF fun K9 dY=>?_;refine cc rfl hM (fun lY hM=>?_) (fun lY hM=>?_)
 ·have ad7:=of_decide_eq_true lY;refine aM (dY _ _ ?_);clear dY;refine jm y (k:=Tm aN sF) (fun Md=>[(0,eS gV bY),(4,eS r5 Md),(18,eS gV bY),(19,eI (bY.length:Int)),(20,eI (sF:Int))]) (fun Md=>[iL bY gV,ah 4 r5 Md]) ?_ ?_
  · intro zB hJ2;refine aV ?_;refine sr ?_;obtain⟨x8,og,hM⟩:=bind_some hM;refine oe (aQ (xs:=bY) 1 (kG bY gV) (iS og)) ?_;refine oe (bE (i:=(sF:Int)) (xs:=bY) (y:=x8) 0 (kG bY gV) (fun _=>og)) ?_;refine aL ?_;refine aF fun pR eH=>?_;refine aJ ?_;refine oe fI ?_;refine on ?_;refine cc rfl hM (fun uQ hM=>?_) (fun uQ hM=>?_)
    ·refine bX (hJ2 hM sS rI)
    refine aM (eH _ _ ?_);clear eH;refine aF fun rU fT=>?_;refine aJ ?_;refine oe bK ?_;refine om ?_;refine au rfl aH ?_;refine au rfl aH ?_;refine au rfl bf ?_;refine au rfl ig ?_;refine oe bP ?_;refine om ?_;refine au rfl aH ?_;refine au rfl aH ?_;obtain⟨qK,zQ,hM⟩:=bind_some hM;refine au rfl (aQ (xs:=qC) 1 (Kn.ah (e:=4) (r:=r5) hA) (fun hg=>let h:=jG (dF zQ hg);⟨h.1,h.2.1⟩)) ?_;refine au rfl (bE (i:=x8) (xs:=qC) (y:=qK) 0 (Kn.ah (e:=4) (r:=r5) hA) (fun hg=>dF zQ hg)) ?_;refine oe bP ?_;refine on ?_;refine cc rfl hM (fun zO hM=>?_) (fun zO hM=>?_)
    ·refine sr ?_;refine oa ?_;refine aL ?_;refine dJ (fun w hm=>hm.dR (α:=List Int) 22 (fun _=>eB)) ?_;obtain rfl:=some_inj hM;refine aP (nu (fun w hm=>gK iC hm rfl))
    refine aM (fT _ _ ?_);clear fT;refine aT ?_;refine om ?_;refine om ?_;obtain⟨iX,hx16,hM⟩:=bind_some hM;refine oe (aQ (xs:=qC) 1 (Kn.ah (e:=4) (r:=r5) hA) (iS hx16)) ?_;refine aY (qm (r:=r5) (i:=x8) (xs:=qC) (u:=iX) (vs:=[.bool true]) 0 true hx16 rfl (fun _ _ h=>h) uA ?_);have zS:=nP (u:=true) hx16;refine aU (hJ2 hM ⟨rfl,(by simp only[List.length_set,eS,sL];rfl),rfl,rfl,rfl,trivial⟩ rI)
  clear hM;rintro Md hM;dsimp only[Tm] at hM ⊢;refine aT ?_;refine oe (dh (hr:=fun _=>by unfold dS;omega)) ?_;refine om ?_;refine aU (hL1 hM sS rI)
 refine bX (bU _ _ ?_);clear bU;dsimp only[acd] at hM;refine bg ?_;refine bg ?_;refine aF fun El nH=>?_;refine aJ ?_;refine gU (fun w hm=>Kn.len (kG bY gV) hm) fun aom=>?_;refine oe bf ?_;refine om ?_;refine on ?_;refine aV ?_;refine dJ (fun w hm=>hm.dR (α:=List Int) 22 (fun _=>eB)) ?_;refine lp iC hM (fun (w9,yI,vF) Gl=>[(0,eS gV bY),(4,eS r5 qC),(7,eS Gl w9),(8,eI yI),(45,eI (bY.length:Int)),(46,eI (vF:Int))]) (fun (w9,yI,vF) Gl=>[iL bY gV,ah 4 r5 qC,ah 22 Gl w9]) sS rI ?_;clear hM;rintro cu ⟨w9,yI,vF⟩ Gl hM qM hL2;dsimp only[ab8] at hM ⊢
 refine sr ?_;refine oe bK ?_;refine on ?_;refine aF fun KC uw=>?_;refine cc rfl hM (fun Az hM=>?_) (fun Az hM=>?_)
 ·have ajL:=of_decide_eq_true Az;refine aM (uw _ _ ?_);clear uw;refine jn (SR (ak.R (List Int))) y (k:=Tn cu vF) (fun (L8,OD) QV=>[(0,eS gV bY),(4,eS r5 qC),(7,eS QV L8),(8,eI OD),(45,eI (bY.length:Int)),(46,eI (vF:Int))]) (fun (L8,OD) QV=>[iL bY gV,ah 4 r5 qC,ah 22 QV L8]) ?_ ?_
  · intro KE rD;refine aV ?_;refine aJ ?_;refine aL ?_;refine aF fun SC xJ=>?_;refine aJ ?_;refine om ?_;obtain⟨x21,vT,hM⟩:=bind_some hM;refine oe (aQ (xs:=qC) 1 (Kn.ah (e:=4) (r:=r5) hA) (iS vT)) ?_;refine oe (bE (i:=(vF:Int)) (xs:=qC) (y:=x21) 0 (Kn.ah (e:=4) (r:=r5) hA) (fun _=>vT)) ?_;refine on ?_;refine cc rfl hM (fun yN hM=>?_) (fun yN hM=>?_)
    ·refine bX (rD Gl hM sS rI)
    refine aM (xJ _ _ ?_);clear xJ;refine bg ?_;refine aF fun Gz qA=>?_;refine aJ ?_;refine aL ?_;refine aV ?_;refine dJ (fun w hm=>hm.dR (α:=Int) 3 (fun _=>())) ?_;refine lp eB hM (fun (zW,C8) JZ=>[(0,eS gV bY),(4,eS r5 qC),(7,eS Gl w9),(8,eI yI),(10,eS JZ zW),(11,eI C8),(45,eI (bY.length:Int)),(46,eI (vF:Int))]) (fun (zW,C8) JZ=>[iL bY gV,ah 4 r5 qC,ah 22 Gl w9,ah 3 JZ zW]) sS rI ?_;clear hM;rintro gY ⟨zW,C8⟩ JZ hM zC hL3;dsimp only[ab9] at hM ⊢;refine aF fun SE zM=>?_;refine aJ ?_;refine oe gH ?_;refine on ?_;refine cc rfl hM (fun hc25 hM=>?_) (fun hc25 hM=>?_)
    ·refine aM (zM _ _ ?_);clear zM;refine aF fun KD uy=>?_;refine aV ?_;refine aT ?_;refine om ?_;refine om ?_;refine aY (fH (α:=Int) 3 (fun _=>()) ([C8]:List Int) oF (fun tX=>?_));obtain⟨ajm,hM⟩:=bQ hM;refine aY (jy (r:=JZ) (r2:=tX) uR (Kn.ah (e:=3) (r:=tX) hA) oF (of_decide_eq_true ajm) (fun JR=>?_));refine oa ?_;refine aU (uy _ _ ?_);clear uy;refine aT ?_;refine om ?_;refine om ?_;obtain⟨x29,FP,hM⟩:=bind_some hM;refine oe (aQ (xs:=bY) 1 (kG bY gV) (iS FP)) ?_;refine oe (bE (i:=C8) (xs:=bY) (y:=x29) 0 (kG bY gV) (fun _=>FP)) ?_;refine oa ?_;refine aU (hL3 JR hM sS rI)
    refine bX (qA _ _ ?_);clear qA;dsimp only[acf] at hM;refine aJ ?_;refine om ?_;refine qG (fun w hm=>hm.freeze (r:=JZ) uA) ?_;refine aY (fH (α:=List Int) 22 (fun _=>JZ) ([zW]:List (List Int)) (mD.cons (fun S w hs=>(kI hs)) mD.nil) (fun Ct=>?_));obtain⟨ajp,hM⟩:=bQ hM;refine aY (jy (r:=Gl) (r2:=Ct) uR (Kn.ah (e:=22) (r:=Ct) hA) (mD.row (e:=22) (r:=Ct) hA) (of_decide_eq_true ajp) (fun r32=>?_));refine aL ?_;refine aT ?_;refine om ?_;refine om ?_;refine oe bf ?_;refine oP hM fun hM=>?_;refine oa ?_;refine aU (rD r32 hM sS rI)
  clear hM;rintro⟨L8,OD⟩ QV hM;dsimp only[Tn] at hM ⊢;refine aT ?_;refine oe (dh (hr:=fun _=>by unfold dS;omega)) ?_;refine om ?_;refine aU (hL2 QV hM sS rI)
 refine bX (nH _ _ ?_);clear nH;dsimp only[ace] at hM;refine aF fun K32 GZ=>?_;refine aJ ?_;refine om ?_;refine oe bf ?_;refine oe bK ?_;refine on ?_;refine cc rfl hM (fun YL hM=>?_) (fun YL hM=>?_)
 ·refine sr ?_;refine oa ?_;refine aL ?_;refine dJ (fun w hm=>hm.dR (α:=List Int) 22 (fun _=>eB)) ?_;obtain rfl:=some_inj hM;refine aP (nu (fun w hm=>gK iC hm rfl))
 refine aM (GZ _ _ ?_);clear GZ;refine aJ ?_;refine oa ?_;refine aL ?_;obtain rfl:=some_inj hM;refine aP (nu (fun w hm=>gK Gl hm rfl))
def Vj(aN:((List Bool)×Nat)→Option Bool)(oz:Nat):(List Bool)→Option Bool:=fun Qm=>
 aN (Qm,oz+1)
def afE:Unit→Option Bool:=fun _=>
 some true
def afD(bY:List Int)(aW:List Task)(r0:Rules)(aN:((List Bool)×Nat)→Option Bool):((List Bool)×Nat)→Option Bool:=fun (Ce,oz)=>
 if decide ((oz:Int)<(bY.length:Int)) then
  ((idx bY (oz:Int)).bind fun x6=>
  if decide (x6=(-1)) then
   (Vj aN oz Ce)
  else
   ((dW (!(decide (x6<0)||decide ((aW.length:Int)≤x6))) default (idx Ce x6)).bind fun x9=>
   if ((decide (x6<0)||decide ((aW.length:Int)≤x6))||x9) then
    (some false)
   else
    ((idx Ce x6).bind fun dz=>
    (idx aW (oz:Int)).bind fun iX=>
    (idx aW x6).bind fun fK=>
    (Vl r0 iX fK).bind fun mq=>
    if (!mq.2) then
     (some false)
    else
     (Vj aN oz (Ce.set x6.toNat true)))))
 else
  (afE ())
def aaH(aW:List Task)(r0:Rules)(bY:List Int):Option Bool:=
 if decide ((bY.length:Int)≠(aW.length:Int)) then
  (some false)
 else
  (iter (afD bY aW r0) FUEL ((List.replicate 40 false),0))
theorem amB(S:bF)(w:World)(aW:List Task)(dU:ak.R (List Task))(r0:Rules)(aC:ak.R Rules)(bY:List Int)(gV:ak.R (List Int))(y:Bool)(hM:aaH aW r0 bY=some y)(hS:sB S w)(Dr:ak.ok S w dU aW)(ku:ak.ok S w aC r0)(FJ:ak.ok S w gV bY):
   Calls Tryz.prog 58 #[sL dU aW,.agg (BK r0 aC),sL gV bY] w (dw w (.bool y)):=by
 refine bW (args:=[_,_,_]) Tryz.func58 rfl ((pre_nil hS).start |>.dZ (α:=List Task) (r:=dU) (x:=aW) Dr|>.Hq ku|>.dZ (α:=List Int) (r:=gV) (x:=bY) FJ) rfl ?_;unfold aaH at hM;refine sr ?_;refine oB (kS r0 aC) fun b1=>?_;refine aL ?_;refine aF fun K2 hK2=>?_;refine aJ ?_;refine oe bf ?_;refine om ?_;refine oe bf ?_;refine oe gH ?_;refine on ?_;refine cc rfl hM (fun hc2 hM=>?_) (fun hc2 hM=>?_)
 ·refine bg ?_;exact aP (bD hM)
 refine aM (hK2 _ _ ?_);clear hK2;refine sr ?_;refine oA rfl fun b3=>?_;refine qG (fun w hm=>hm.arr (α:=Bool) (b:=b3) (T:=174) (m:=40) (x0:=false) (rz:=()) rfl (fun _ _=>trivial) (by decide) uA) ?_;refine on ?_;refine aF fun K6 bU=>?_;refine aJ ?_;refine gU (fun w hm=>Kn.len (kG bY gV) hm) fun hl4=>?_;refine oe bf ?_;refine om ?_;refine on ?_;refine aV ?_;refine lq hM (fun (Ce,oz)=>[(0,eS dU aW),(4,eP b1),(7,eP b3),(17,eS gV bY),(18,eI (bY.length:Int)),(19,eI (oz:Int))]) (fun (Ce,oz)=>[iL aW dU,iL r0.fB aC.1,iL r0.gW aC.2,own b1 95 (kS r0 aC),ah 174 (⟨some ⟨b3,0,none⟩,40,fun _=>()⟩:SR (ak.R Bool)) Ce,iL bY gV]) sS rI ?_;clear hM;rintro aN ⟨Ce,oz⟩ hM fQ hL1;dsimp only[afD] at hM ⊢
 refine sr ?_;refine oe bK ?_;refine on ?_;refine aF fun K9 dY=>?_;refine cc rfl hM (fun jO hM=>?_) (fun jO hM=>?_)
 ·have ajV:=of_decide_eq_true jO;refine aM (dY _ _ ?_);clear dY;refine jm y (k:=Vj aN oz) (fun Qm=>[(0,eS dU aW),(4,eP b1),(7,eP b3),(17,eS gV bY),(18,eI (bY.length:Int)),(19,eI (oz:Int))]) (fun Qm=>[iL aW dU,iL r0.fB aC.1,iL r0.gW aC.2,own b1 95 (kS r0 aC),ah 174 (⟨some ⟨b3,0,none⟩,40,fun _=>()⟩:SR (ak.R Bool)) Qm,iL bY gV]) ?_ ?_
  · intro zB hJ2;refine aV ?_;refine aJ ?_;obtain⟨x6,hx7,hM⟩:=bind_some hM;refine oe (aQ (xs:=bY) 1 (kG bY gV) (iS hx7)) ?_;refine oe (bE (i:=(oz:Int)) (xs:=bY) (y:=x6) 0 (kG bY gV) (fun _=>hx7)) ?_;refine oa ?_;refine aL ?_;refine aF fun pR eH=>?_;refine aJ ?_;refine oe fI ?_;refine on ?_;refine cc rfl hM (fun hc8 hM=>?_) (fun hc8 hM=>?_)
    ·refine bX (hJ2 hM sS rI)
    refine aM (eH _ _ ?_);clear eH;refine aF fun rU fT=>?_;refine aJ ?_;refine oe bK ?_;refine om ?_;refine au rfl aH ?_;refine au rfl aH ?_;refine au rfl bf ?_;refine au rfl ig ?_;refine oe bP ?_;refine om ?_;refine au rfl aH ?_;obtain⟨x9,mG,hM⟩:=bind_some hM;refine au rfl (FD (r:=(⟨some ⟨b3,0,none⟩,40,fun _=>()⟩:SR (ak.R Bool))) (xs:=Ce) 1 (Kn.ah (e:=174) (r:=(⟨some ⟨b3,0,none⟩,40,fun _=>()⟩:SR (ak.R Bool))) hA) (fun hg=>let h:=jG (dF mG hg);⟨h.1,h.2.1⟩)) ?_;refine au rfl (bE (i:=x6) (xs:=Ce) (y:=x9) 0 (Kn.ah (e:=174) (r:=(⟨some ⟨b3,0,none⟩,40,fun _=>()⟩:SR (ak.R Bool))) hA) (fun hg=>dF mG hg)) ?_;refine oe bP ?_;refine on ?_;refine cc rfl hM (fun uS hM=>?_) (fun uS hM=>?_)
    ·refine bg ?_;exact aP (bD hM)
    refine aM (fT _ _ ?_);clear fT;refine aJ ?_;obtain⟨dz,lU,hM⟩:=bind_some hM;refine oe (FD (r:=(⟨some ⟨b3,0,none⟩,40,fun _=>()⟩:SR (ak.R Bool))) (xs:=Ce) 1 (Kn.ah (e:=174) (r:=(⟨some ⟨b3,0,none⟩,40,fun _=>()⟩:SR (ak.R Bool))) hA) (iS lU)) ?_;refine aY (qm (r:=(⟨some ⟨b3,0,none⟩,40,fun _=>()⟩:SR (ak.R Bool))) (i:=x6) (xs:=Ce) (u:=dz) (vs:=[.bool true]) 0 true lU rfl (fun _ _ h=>h) uA ?_);have qB:=nP (u:=true) lU;refine on ?_;refine aF fun Fh oG=>?_;refine fE _ (List.Sublist.refl _) ?_;refine aj 0 rfl (bM (b:=b1)) ?_;refine aj 1 rfl aH ?_;refine aj 2 rfl aH ?_;obtain⟨iX,hx16,hM⟩:=bind_some hM;refine aj 3 rfl (aQ (xs:=aW) 5 (kG aW dU) (iS hx16)) ?_;refine aj 4 rfl (eY (m:=5) (i:=(oz:Int)) (xs:=aW) (y:=iX) (l:=(qh iX)) 0 (kG aW dU) (fun _=>hx16)) ?_;refine aj 5 rfl aH ?_;refine aj 6 rfl aH ?_;obtain⟨fK,pW,hM⟩:=bind_some hM;refine aj 7 rfl (aQ (xs:=aW) 5 (kG aW dU) (iS pW)) ?_;refine aj 8 rfl (eY (m:=5) (i:=x6) (xs:=aW) (y:=fK) (l:=(qh fK)) 0 (kG aW dU) (fun _=>pW)) ?_
    obtain⟨mq,FW,hM⟩:=bind_some hM;refine dX 9 rfl (sV (fun hs=>afH _ _ r0 aC iX fK mq FW (bq hs) ⟨(kM hs),(kM hs)⟩) ⟨rI,?_⟩);refine aj 10 rfl aH ?_;refine aj 11 rfl (jl (vs:=[vI mq.1,.bool mq.2])) ?_;refine aj 12 rfl (jl (vs:=[vI mq.1,.bool mq.2])) ?_;refine aj 13 rfl dL ?_;refine aj 14 rfl dL ?_;refine dK (oG _ _ ?_);clear oG;refine aJ ?_;refine oe dN ?_;refine on ?_;refine cc rfl hM (fun hc21 hM=>?_) (fun hc21 hM=>?_)
    ·refine bg ?_;exact aP (bD hM)
    refine aM (hJ2 hM sS rI)
  clear hM;rintro Qm hM;dsimp only[Vj] at hM ⊢;refine aT ?_;refine oe (dh (hr:=fun _=>by unfold dS;omega)) ?_;refine om ?_;refine aU (hL1 hM sS rI)
 refine bX (bU _ _ ?_);clear bU;dsimp only[afE] at hM;refine bg ?_;exact aP (bD hM)
def Vm(aN:(Int×Nat)→Option Int)(iN:Nat):Int→Option Int:=fun PW=>
 aN (PW,iN+1)
def afJ(jc:Int):Unit→Option Int:=fun _=>
 some jc
def afI(bY:List Int)(aN:(Int×Nat)→Option Int):(Int×Nat)→Option Int:=fun (jc,iN)=>
 if decide ((iN:Int)<(bY.length:Int)) then
  ((idx bY (iN:Int)).bind fun x3=>
  if decide (x3≠(-1)) then
   (aX (bA (jc+1))<|
   Vm aN iN (jc+1))
  else
   (Vm aN iN jc))
 else
  (afJ jc ())
def aaI(bY:List Int):Option Int:=
 iter (afI bY) FUEL (0,0)
theorem amC(S:bF)(w:World)(bY:List Int)(gV:ak.R (List Int))(y:Int)(hM:aaI bY=some y)(hS:sB S w)(FJ:ak.ok S w gV bY):
   Calls Tryz.prog 60 #[sL gV bY] w (dw w (vI y)):=by
 refine bW (args:=[_]) Tryz.func60 rfl ((pre_nil hS).start |>.dZ (α:=List Int) (r:=gV) (x:=bY) FJ) rfl ?_;unfold aaI at hM;refine bg ?_;refine bg ?_;refine aF fun K3 hK3=>?_;refine aJ ?_;refine gU (fun w hm=>Kn.len (kG bY gV) hm) fun hl1=>?_;refine oe bf ?_;refine om ?_;refine on ?_;refine aV ?_;refine lq hM (fun (jc,iN)=>[(3,eI jc),(6,eS gV bY),(7,eI (bY.length:Int)),(8,eI (iN:Int))]) (fun (jc,iN)=>[iL bY gV]) sS rI ?_;clear hM;rintro aN ⟨jc,iN⟩ hM fQ hL1;dsimp only[afI] at hM ⊢;refine sr ?_;refine oe bK ?_;refine on ?_;refine aF fun K6 bU=>?_;refine cc rfl hM (fun hc2 hM=>?_) (fun hc2 hM=>?_)
 ·have FL:=of_decide_eq_true hc2;refine aM (bU _ _ ?_);clear bU;refine jm y (k:=Vm aN iN) (fun PW=>[(3,eI PW),(6,eS gV bY),(7,eI (bY.length:Int)),(8,eI (iN:Int))]) (fun PW=>[iL bY gV]) ?_ ?_
  · intro zB hJ2;refine aV ?_;refine sr ?_;obtain⟨x3,hx4,hM⟩:=bind_some hM;refine oe (aQ (xs:=bY) 1 (kG bY gV) (iS hx4)) ?_;refine oe (bE (i:=(iN:Int)) (xs:=bY) (y:=x3) 0 (kG bY gV) (fun _=>hx4)) ?_;refine aL ?_;refine aJ ?_;refine oe gH ?_;refine on ?_;refine cc rfl hM (fun jO hM=>?_) (fun jO hM=>?_)
    ·refine aT ?_;refine om ?_;refine oP hM fun hM=>?_;refine oa ?_;refine aU (hJ2 hM sS rI)
    refine aM (hJ2 hM sS rI)
  clear hM;rintro PW hM;dsimp only[Vm] at hM ⊢;refine aT ?_;refine oe (dh (hr:=fun _=>by unfold dS;omega)) ?_;refine om ?_;refine aU (hL1 hM sS rI)
 refine bX (hK3 _ _ ?_);clear hK3;dsimp only[afJ] at hM;refine aJ ?_;refine aL ?_;exact aP (bD hM)
def afR:Unit→Option Bool:=fun _=>
 some true
def afQ(l0:List Int)(n0:Int)(aN:Nat→Option Bool):Nat→Option Bool:=fun sG=>
 if decide ((sG:Int)<(l0.length:Int)) then
  ((idx l0 (sG:Int)).bind fun x3=>
  aX (!((!(decide (x3<0)||decide (n0≤x3)))&&decide (0<(sG:Int)))||bA ((sG:Int)-1))<|
  (dW ((!(decide (x3<0)||decide (n0≤x3)))&&decide (0<(sG:Int))) default (idx l0 ((sG:Int)-1))).bind fun x6=>
  if ((decide (x3<0)||decide (n0≤x3))||(decide (0<(sG:Int))&&decide (x3≤x6))) then
   (some false)
  else
   (aN (sG+1)))
 else
  (afR ())
def Vo(l0:List Int)(n0:Int):Option Bool:=
 iter (afQ l0 n0) FUEL 0
theorem afS(S:bF)(w:World)(l0:List Int)(aG:ak.R (List Int))(n0:Int)(y:Bool)(hM:Vo l0 n0=some y)(hS:sB S w)(eT:ak.ok S w aG l0):
   Calls Tryz.prog 59 #[sL aG l0,vI n0] w (dw w (.bool y)):=by
 refine bW (args:=[_,_]) Tryz.func59 rfl ((pre_nil hS).start |>.dZ (α:=List Int) (r:=aG) (x:=l0) eT) rfl ?_;unfold Vo at hM;refine bg ?_;refine aF fun K2 hK2=>?_;refine aJ ?_;refine gU (fun w hm=>Kn.len (kG l0 aG) hm) fun hl1=>?_;refine oe bf ?_;refine om ?_;refine on ?_;refine aV ?_;refine lq hM (fun sG=>[(0,eS aG l0),(1,eI n0),(7,eS aG l0),(8,eI (l0.length:Int)),(9,eI (sG:Int))]) (fun sG=>[iL l0 aG]) sS rI ?_;clear hM;rintro aN sG hM fQ hL1;dsimp only[afQ] at hM ⊢;refine sr ?_;refine oe bK ?_;refine on ?_;refine aF fun K5 bT=>?_;refine cc rfl hM (fun hc2 hM=>?_) (fun hc2 hM=>?_)
 ·have FL:=of_decide_eq_true hc2;refine aM (bT _ _ ?_);clear bT;refine aF fun K6 bU=>?_;refine aV ?_;refine aJ ?_;obtain⟨x3,hx4,hM⟩:=bind_some hM;refine oe (aQ (xs:=l0) 1 (kG l0 aG) (iS hx4)) ?_;refine oe (bE (i:=(sG:Int)) (xs:=l0) (y:=x3) 0 (kG l0 aG) (fun _=>hx4)) ?_;refine oa ?_;refine aL ?_;refine aJ ?_;refine oe bK ?_;refine om ?_;refine au rfl aH ?_;refine au rfl aH ?_;refine au rfl ig ?_;refine oe bP ?_;refine om ?_;refine au rfl aH ?_;refine au rfl eO ?_;refine au rfl aH ?_;refine au rfl aH ?_;refine au rfl aH ?_;refine au rfl aH ?_;obtain⟨FI,hM⟩:=bQ hM;refine au rfl (mQ (hr:=fun hg=>dI (tL FI hg))) ?_;obtain⟨x6,hx7,hM⟩:=bind_some hM;refine au rfl (aQ (xs:=l0) 1 (kG l0 aG) (fun hg=>let h:=jG (dF hx7 hg);⟨h.1,h.2.1⟩)) ?_;refine au rfl (bE (i:=((sG:Int)-1)) (xs:=l0) (y:=x6) 0 (kG l0 aG) (fun hg=>dF hx7 hg)) ?_;refine au rfl kD ?_;refine au rfl dB ?_;refine oe bP ?_;refine on ?_
  refine cc rfl hM (fun hc8 hM=>?_) (fun hc8 hM=>?_)
  · refine bg ?_;exact aP (bD hM)
  refine aM (bU _ _ ?_);clear bU;refine aT ?_;refine oe (dh (hr:=fun _=>by unfold dS;omega)) ?_;refine om ?_;refine aU (hL1 hM sS rI)
 refine bX (hK2 _ _ ?_);clear hK2;dsimp only[afR] at hM;refine bg ?_;exact aP (bD hM)
def afU:Unit→Option Bool:=fun _=>
 some false
def afT(l0:List Int)(v0:Int)(aN:Nat→Option Bool):Nat→Option Bool:=fun sG=>
 if decide ((sG:Int)<(l0.length:Int)) then
  ((idx l0 (sG:Int)).bind fun x3=>
  if decide (x3=v0) then
   (some true)
  else
   (aN (sG+1)))
 else
  (afU ())
def Vp(l0:List Int)(v0:Int):Option Bool:=
 iter (afT l0 v0) FUEL 0
theorem afV(S:bF)(w:World)(l0:List Int)(aG:ak.R (List Int))(v0:Int)(y:Bool)(hM:Vp l0 v0=some y)(hS:sB S w)(eT:ak.ok S w aG l0):
   Calls Tryz.prog 62 #[sL aG l0,vI v0] w (dw w (.bool y)):=by
 refine bW (args:=[_,_]) Tryz.func62 rfl ((pre_nil hS).start |>.dZ (α:=List Int) (r:=aG) (x:=l0) eT) rfl ?_;unfold Vp at hM;refine bg ?_;refine aF fun K2 hK2=>?_;refine aJ ?_;refine gU (fun w hm=>Kn.len (kG l0 aG) hm) fun hl1=>?_;refine oe bf ?_;refine om ?_;refine on ?_;refine aV ?_;refine lq hM (fun sG=>[(1,eI v0),(7,eS aG l0),(8,eI (l0.length:Int)),(9,eI (sG:Int))]) (fun sG=>[iL l0 aG]) sS rI ?_;clear hM;rintro aN sG hM fQ hL1;dsimp only[afT] at hM ⊢;refine sr ?_;refine oe bK ?_;refine on ?_;refine aF fun K5 bT=>?_;refine cc rfl hM (fun hc2 hM=>?_) (fun hc2 hM=>?_)
 ·have FL:=of_decide_eq_true hc2;refine aM (bT _ _ ?_);clear bT;refine aF fun K6 bU=>?_;refine aV ?_;refine sr ?_;obtain⟨x3,hx4,hM⟩:=bind_some hM;refine oe (aQ (xs:=l0) 1 (kG l0 aG) (iS hx4)) ?_;refine oe (bE (i:=(sG:Int)) (xs:=l0) (y:=x3) 0 (kG l0 aG) (fun _=>hx4)) ?_;refine aL ?_;refine aJ ?_;refine om ?_;refine oe fI ?_;refine on ?_;refine cc rfl hM (fun jO hM=>?_) (fun jO hM=>?_)
  · refine bg ?_;exact aP (bD hM)
  refine aM (bU _ _ ?_);clear bU;refine aT ?_;refine oe (dh (hr:=fun _=>by unfold dS;omega)) ?_;refine om ?_;refine aU (hL1 hM sS rI)
 refine bX (hK2 _ _ ?_);clear hK2;dsimp only[afU] at hM;refine bg ?_;exact aP (bD hM)
def afO(aN:Nat→Option Bool)(yA:Nat):Unit→Option Bool:=fun _=>
 aN (yA+1)
def afM(aW:List Task)(yA:Nat)(r0:Rules)(c0:gF)(aN:Nat→Option Bool)(cu:Nat→Option Bool):Nat→Option Bool:=fun E9=>
 if decide ((E9:Int)<(aW.length:Int)) then
  ((idx aW (yA:Int)).bind fun lF=>
  (idx aW (E9:Int)).bind fun x21=>
  (Vl r0 lF x21).bind fun y23=>
  (dW y23.2 default (Vp c0.Left (yA:Int))).bind fun y25=>
  (dW (y23.2&&(!y25)) default (Vp c0.Right (E9:Int))).bind fun y27=>
  if ((y23.2&&(!y25))&&(!y27)) then
   (some false)
  else
   (cu (E9+1)))
 else
  (afO aN yA ())
def afN:Unit→Option Bool:=fun _=>
 some true
def afL(aW:List Task)(r0:Rules)(c0:gF)(aN:Nat→Option Bool):Nat→Option Bool:=fun yA=>
 if decide ((yA:Int)<(aW.length:Int)) then
  (iter (afM aW yA r0 c0 aN) FUEL 0)
 else
  (afN ())
def Vn(aW:List Task)(r0:Rules)(bY:List Int)(c0:gF):Option Bool:=
 (aaG aW r0).bind fun y3=>
 (dW (!(!y3)) default (aaH aW r0 bY)).bind fun y5=>
 (dW (!((!y3)||(!y5))) default (Vo c0.Left (aW.length:Int))).bind fun y7=>
 (dW (!(((!y3)||(!y5))||(!y7))) default (Vo c0.Right (aW.length:Int))).bind fun y9=>
 aX (!(!((((!y3)||(!y5))||(!y7))||(!y9)))||bA ((c0.Left.length:Int)+(c0.Right.length:Int)))<|
 (dW (!((((!y3)||(!y5))||(!y7))||(!y9))) default (aaI bY)).bind fun um=>
 if (((((!y3)||(!y5))||(!y7))||(!y9))||decide (((c0.Left.length:Int)+(c0.Right.length:Int))≠um)) then
  (some false)
 else
  (iter (afL aW r0 c0) FUEL 0)
theorem afP(S:bF)(w:World)(aW:List Task)(dU:ak.R (List Task))(r0:Rules)(aC:ak.R Rules)(bY:List Int)(gV:ak.R (List Int))(c0:gF)(Bl:ak.R gF)(y:Bool)(hM:Vn aW r0 bY c0=some y)(hS:sB S w)(Dr:ak.ok S w dU aW)(ku:ak.ok S w aC r0)(FJ:ak.ok S w gV bY)(ai8:ak.ok S w Bl c0):
   Calls Tryz.prog 28 #[sL dU aW,.agg (BK r0 aC),sL gV bY,.agg (IW c0 Bl)] w (dw w (.bool y)):=by
 refine bW (args:=[_,_,_,_]) Tryz.func28 rfl ((pre_nil hS).start |>.dZ (α:=List Task) (r:=dU) (x:=aW) Dr|>.Hq ku|>.dZ (α:=List Int) (r:=gV) (x:=bY) FJ|>.al6 ai8) rfl ?_;unfold Vn at hM;refine sr ?_;refine oB (kS r0 aC) fun b1=>?_;refine oB (JI c0 Bl) fun b2=>?_;refine aL ?_;refine aF fun K2 hK2=>?_;refine aF fun K3 hK3=>?_;refine fE _ (List.Sublist.refl _) ?_;refine aj 0 rfl aH ?_;refine aj 1 rfl (bM (b:=b1)) ?_;obtain⟨y3,hy4,hM⟩:=bind_some hM;refine dX 2 rfl (sV (fun hs=>amA _ _ aW dU r0 aC y3 hy4 (bq hs) (kM hs) ⟨(kM hs),(kM hs)⟩) ⟨rI,?_⟩);refine aj 3 rfl dN ?_;refine aj 4 rfl aH ?_;refine bO 5 rfl rfl aH ?_;refine bO 6 rfl rfl (bM (b:=b1)) ?_;refine bO 7 rfl rfl aH ?_;obtain⟨y5,yS,hM⟩:=bind_some hM
 refine GJ 8 rfl rfl (fun hg w hm=>let ⟨S,hs⟩:=hm;amB _ w aW dU r0 aC bY gV y5 (dF yS hg) (bq hs) (kM hs) ⟨(kM hs),(kM hs)⟩ (kM hs)) ?_;refine bO 9 rfl rfl dN ?_;refine aj 10 rfl bP ?_;refine aj 11 rfl aH ?_;refine bO 12 rfl rfl (ay 0) ?_;refine bO 13 rfl rfl (aD (b:=b2)) ?_;refine bO 14 rfl rfl aH ?_;refine bO 15 rfl rfl bf ?_;obtain⟨y7,Jq,hM⟩:=bind_some hM;refine GJ 16 rfl rfl (fun hg w hm=>let ⟨S,hs⟩:=hm;afS _ w c0.Left Bl.1 (aW.length:Int) y7 (dF Jq hg) (bq hs) (kM hs)) ?_;refine bO 17 rfl rfl dN ?_;refine aj 18 rfl bP ?_;refine aj 19 rfl aH ?_;refine bO 20 rfl rfl (ay 1) ?_;refine bO 21 rfl rfl (aD (b:=b2)) ?_;refine bO 22 rfl rfl aH ?_;refine bO 23 rfl rfl bf ?_;obtain⟨y9,yO,hM⟩:=bind_some hM;refine GJ 24 rfl rfl (fun hg w hm=>let ⟨S,hs⟩:=hm;afS _ w c0.Right Bl.2 (aW.length:Int) y9 (dF yO hg) (bq hs) (kM hs)) ?_;refine bO 25 rfl rfl dN ?_;refine aj 26 rfl bP ?_;refine aj 27 rfl aH ?_;refine bO 28 rfl rfl (ay 0) ?_;refine bO 29 rfl rfl (aD (b:=b2)) ?_;refine bO 30 rfl rfl bf ?_;refine bO 31 rfl rfl (ay 1) ?_;refine bO 32 rfl rfl (aD (b:=b2)) ?_;refine bO 33 rfl rfl bf ?_;obtain⟨aiO,hM⟩:=bQ hM
 refine bO 34 rfl rfl (dh (hr:=fun hg=>dI (tL aiO hg))) ?_;refine bO 35 rfl rfl aH ?_;obtain⟨um,FT,hM⟩:=bind_some hM;refine GJ 36 rfl rfl (fun hg w hm=>let ⟨S,hs⟩:=hm;amC _ w bY gV um (dF FT hg) (bq hs) (kM hs)) ?_;refine bO 37 rfl rfl gH ?_;refine aj 38 rfl bP ?_;refine dK (hK3 _ _ ?_);clear hK3;refine cc rfl hM (fun uT hM=>?_) (fun uT hM=>?_)
 ·refine bg ?_;exact aP (bD hM)
 refine aM (hK2 _ _ ?_);clear hK2;refine aF fun K5 bT=>?_;refine aJ ?_;refine gU (fun w hm=>Kn.len (kG aW dU) hm) fun Y3=>?_;refine oe bf ?_;refine om ?_;refine on ?_;refine aV ?_;refine lq hM (fun yA=>[(0,eS dU aW),(5,eP b1),(7,eP b2),(53,eI (aW.length:Int)),(54,eI (yA:Int))]) (fun yA=>[iL aW dU,iL r0.fB aC.1,iL r0.gW aC.2,own b1 95 (kS r0 aC),iL c0.Left Bl.1,iL c0.Right Bl.2,own b2 99 (JI c0 Bl)]) sS rI ?_;clear hM;rintro aN yA hM fQ hL1;dsimp only[afL] at hM ⊢;refine sr ?_;refine oe bK ?_;refine on ?_;refine aF fun K8 fu=>?_;refine cc rfl hM (fun hc16 hM=>?_) (fun hc16 hM=>?_)
 ·have ad5:=of_decide_eq_true hc16;refine aM (fu _ _ ?_);clear fu;refine aF fun K9 dY=>?_;refine aV ?_;refine aJ ?_;refine aL ?_;refine aJ ?_;refine gU (fun w hm=>Kn.len (kG aW dU) hm) fun akm=>?_;refine oe bf ?_;refine om ?_;refine on ?_;refine aV ?_;refine lq hM (fun E9=>[(0,eS dU aW),(5,eP b1),(7,eP b2),(9,eI (yA:Int)),(53,eI (aW.length:Int)),(54,eI (yA:Int)),(58,eI (aW.length:Int)),(59,eI (E9:Int))]) (fun E9=>[iL aW dU,iL r0.fB aC.1,iL r0.gW aC.2,own b1 95 (kS r0 aC),iL c0.Left Bl.1,iL c0.Right Bl.2,own b2 99 (JI c0 Bl)]) sS rI ?_;clear hM;rintro cu E9 hM qM hL2;dsimp only[afM] at hM ⊢
  refine sr ?_;refine oe bK ?_;refine on ?_;refine aF fun rU fT=>?_;refine cc rfl hM (fun hc18 hM=>?_) (fun hc18 hM=>?_)
  · have aoc:=of_decide_eq_true hc18;refine aM (fT _ _ ?_);clear fT;refine aF fun zA kg=>?_;refine aV ?_;refine aJ ?_;refine aL ?_;refine aF fun yF jC=>?_;refine fE _ (List.Sublist.refl _) ?_;refine aj 0 rfl (bM (b:=b1)) ?_;refine aj 1 rfl aH ?_;refine aj 2 rfl aH ?_;obtain⟨lF,uV,hM⟩:=bind_some hM;refine aj 3 rfl (aQ (xs:=aW) 5 (kG aW dU) (iS uV)) ?_;refine aj 4 rfl (eY (m:=5) (i:=(yA:Int)) (xs:=aW) (y:=lF) (l:=(qh lF)) 0 (kG aW dU) (fun _=>uV)) ?_;refine aj 5 rfl aH ?_;refine aj 6 rfl aH ?_;obtain⟨x21,vT,hM⟩:=bind_some hM;refine aj 7 rfl (aQ (xs:=aW) 5 (kG aW dU) (iS vT)) ?_;refine aj 8 rfl (eY (m:=5) (i:=(E9:Int)) (xs:=aW) (y:=x21) (l:=(qh x21)) 0 (kG aW dU) (fun _=>vT)) ?_;obtain⟨y23,hy24,hM⟩:=bind_some hM;refine dX 9 rfl (sV (fun hs=>afH _ _ r0 aC lF x21 y23 hy24 (bq hs) ⟨(kM hs),(kM hs)⟩) ⟨rI,?_⟩)
    refine aj 10 rfl aH ?_;refine aj 11 rfl (jl (vs:=[vI y23.1,.bool y23.2])) ?_;refine aj 12 rfl (jl (vs:=[vI y23.1,.bool y23.2])) ?_;refine aj 13 rfl dL ?_;refine aj 14 rfl dL ?_;refine dK (jC _ _ ?_);clear jC;refine aJ ?_;refine om ?_;refine au rfl (ay 0) ?_;refine au rfl (aD (b:=b2)) ?_;refine au rfl aH ?_;obtain⟨y25,FX,hM⟩:=bind_some hM;refine cg rfl (fun hg hs=>afV _ _ c0.Left Bl.1 (yA:Int) y25 (dF FX hg) (bq hs) (kM hs)) ?_;refine au rfl dN ?_;refine oe dB ?_;refine om ?_;refine au rfl (ay 1) ?_;refine au rfl (aD (b:=b2)) ?_;refine au rfl aH ?_;obtain⟨y27,hy28,hM⟩:=bind_some hM;refine cg rfl (fun hg hs=>afV _ _ c0.Right Bl.2 (E9:Int) y27 (dF hy28 hg) (bq hs) (kM hs)) ?_;refine au rfl dN ?_;refine oe dB ?_;refine on ?_;refine cc rfl hM (fun hc29 hM=>?_) (fun hc29 hM=>?_)
    ·refine bg ?_;exact aP (bD hM)
    refine aM (kg _ _ ?_);clear kg;refine aT ?_;refine oe (dh (hr:=fun _=>by unfold dS;omega)) ?_;refine om ?_;refine aU (hL2 hM sS rI)
  refine bX (dY _ _ ?_);clear dY;dsimp only[afO] at hM;refine aT ?_;refine oe (dh (hr:=fun _=>by unfold dS;omega)) ?_;refine om ?_;refine aU (hL1 hM sS rI)
 refine bX (bT _ _ ?_);clear bT;dsimp only[afN] at hM;refine bg ?_;exact aP (bD hM)
def aac:Option ((List Task)×Rules):=
 some (([(Task.mk 0 1 2 0 10),(Task.mk 0 2 1 15 25),(Task.mk 0 1 2 20 30)]:List Task),(Rules.mk 5 ([]:List Ej) ([]:List Int) 0 100))
theorem alq(S:bF)(w:World)(y:(List Task)×Rules)(hM:aac=some y)(hS:sB S w):
  Calls Tryz.prog 24 #[] w (Post (β:=(ak.R (List Task))×(ak.R Rules)) S [] (fun g=> .tuple #[sL g.1 y.1,.agg (BK y.2 g.2)]) (fun g=>[ah 57 g.1 y.1,ah 166 g.2.1 y.2.fB,ah 3 g.2.2 y.2.gW]) w):=by
 refine bW (args:=[]) Tryz.func24 rfl ((pre_nil hS).start) rfl ?_;unfold aac at hM;refine sr ?_;refine oa ?_;refine oA rfl fun b1=>?_;refine on ?_;refine sr ?_;refine oe (gD [vI 0,vI 1,vI 2,vI 0,vI 10]) ?_;refine oe (gD [vI 0,vI 2,vI 1,vI 15,vI 25]) ?_;refine oe (gD [vI 0,vI 1,vI 2,vI 20,vI 30]) ?_;refine aY (fH (α:=Task) 57 (fun _=>()) ([(Task.mk 0 1 2 0 10),(Task.mk 0 2 1 15 25),(Task.mk 0 1 2 20 30)]:List Task) oF (fun r2=>?_));refine oe (gD [vI 5,z0,z0,vI 0,vI 100]) ?_;refine oa ?_;refine oS b1 [vI 5,z0,z0,vI 0,vI 100] ?_;refine on ?_;refine dJ (fun w hm=>hm.dR (α:=Ej) 166 (fun _=>())) ?_;refine dJ (fun w hm=>hm.dR (α:=Int) 3 (fun _=>())) ?_;obtain rfl:=some_inj hM;refine aP (nu (fun w hm=>gK (r2,(alR,eB)) hm rfl))
end Go.Proofs.YtcalibhfgdncaaaGreat

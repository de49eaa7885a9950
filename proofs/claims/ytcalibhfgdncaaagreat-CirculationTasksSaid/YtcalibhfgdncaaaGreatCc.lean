/- Models of functions, and that the code computes them. -/
import Derived.Test.YtcalibhfgdncaaaGreatCb
set_option linter.all false
namespace Go.Proofs.YtcalibhfgdncaaaGreat
open Go.Dc Go.RowKit
set_option maxRecDepth 10000
def agA:Unit→Option Int:=fun _=>
 some (-1)
def agz(s0:List Int)(v0:Int)(aN:Nat→Option Int):Nat→Option Int:=fun iN=>
 if decide ((iN:Int)<(s0.length:Int)) then
  ((idx s0 (iN:Int)).bind fun x3=>
  if decide (v0=x3) then
   (some (iN:Int))
  else
   (aN (iN+1)))
 else
  (agA ())
def aa5(s0:List Int)(v0:Int):Option Int:=
 iter (agz s0 v0) FUEL 0
theorem anB(S:bF)(w:World)(s0:List Int)(bR:ak.R (List Int))(v0:Int)(y:Int)(hM:aa5 s0 v0=some y)(hS:sB S w)(Ay:ak.ok S w bR s0):
   Calls Tryz.prog 97 #[sL bR s0,vI v0] w (dw w (vI y)):=by
 refine bW (args:=[_,_]) Tryz.func97 rfl ((pre_nil hS).start |>.dZ (α:=List Int) (r:=bR) (x:=s0) Ay) rfl ?_;unfold aa5 at hM;refine bg ?_;refine aF fun K2 hK2=>?_;refine aJ ?_;refine gU (fun w hm=>Kn.len (kG s0 bR) hm) fun hl1=>?_;refine oe bf ?_;refine om ?_;refine on ?_;refine aV ?_;refine lq hM (fun iN=>[(0,eS bR s0),(1,eI v0),(7,eI (s0.length:Int)),(8,eI (iN:Int))]) (fun iN=>[iL s0 bR]) sS rI ?_;clear hM;rintro aN iN hM fQ hL1;dsimp only[agz] at hM ⊢;refine sr ?_;refine oe bK ?_;refine on ?_;refine aF fun K5 bT=>?_;refine cc rfl hM (fun hc2 hM=>?_) (fun hc2 hM=>?_)
 ·have FL:=of_decide_eq_true hc2;refine aM (bT _ _ ?_);clear bT;refine aF fun K6 bU=>?_;refine aV ?_;refine aJ ?_;refine aL ?_;refine aJ ?_;refine om ?_;refine om ?_;obtain⟨x3,hx4,hM⟩:=bind_some hM;refine oe (aQ (xs:=s0) 1 (kG s0 bR) (iS hx4)) ?_;refine oe (bE (i:=(iN:Int)) (xs:=s0) (y:=x3) 0 (kG s0 bR) (fun _=>hx4)) ?_;refine oe fI ?_;refine on ?_;refine cc rfl hM (fun jO hM=>?_) (fun jO hM=>?_)
  · refine aJ ?_;refine aL ?_;exact aP (bD hM)
  refine aM (bU _ _ ?_);clear bU;refine aT ?_;refine oe (dh (hr:=fun _=>by unfold dS;omega)) ?_;refine om ?_;refine aU (hL1 hM sS rI)
 refine bX (hK2 _ _ ?_);clear hK2;dsimp only[agA] at hM;refine bg ?_;exact aP (bD hM)
def Tq(cu:((List Bool)×(List Int)×Nat)→Option gF)(vE:Nat):((List Bool)×(List Int))→Option gF:=fun (Ma,Mj)=>
 cu (Ma,Mj,vE+1)
def OA(nG:((List Bool)×(List Bool)×(List Int)×Nat)→Option gF)(tC:Nat):((List Bool)×(List Bool)×(List Int))→Option gF:=fun (Mc,Mq,Mk)=>
 nG (Mc,Mq,Mk,tC+1)
def acz(aW:List Task)(x34:Int)(r0:Rules)(nI:List Int)(gY:((List Bool)×(List Bool)×(List Int))→Option gF)(nG:((List Bool)×(List Bool)×(List Int)×Nat)→Option gF):((List Bool)×(List Bool)×(List Int)×Nat)→Option gF:=fun (yV,yY,EI,tC)=>
 if decide ((tC:Int)<(aW.length:Int)) then
  ((idx aW x34).bind fun x41=>
  (idx aW (tC:Int)).bind fun x43=>
  (Tp r0 x41 x43).bind fun uM=>
  (dW (!(!uM.2)) default (idx yY (tC:Int))).bind fun oD=>
  if ((!uM.2)||oD) then
   (OA nG tC (yV,yY,EI))
  else
   ((idx yY (tC:Int)).bind fun x50=>
   (idx nI (tC:Int)).bind fun mI=>
   (dW (decide (0≤mI)) default (idx yV mI)).bind fun x55=>
   if (decide (0≤mI)&&(!x55)) then
    ((idx yV mI).bind fun x58=>
    aX (decide ((EI.length+([mI]:List Int).length)*8≤140737488355328))<|
    OA nG tC ((yV.set mI.toNat true),(yY.set (tC:Int).toNat true),(EI++([mI]:List Int))))
   else
    (OA nG tC (yV,(yY.set (tC:Int).toNat true),EI))))
 else
  (gY (yV,yY,EI))
def Tt(qx:((List Int)×(List Int)×Nat)→Option gF)(oQ:Nat):((List Int)×(List Int))→Option gF:=fun (LZ,L6)=>
 qx (LZ,L6,oQ+1)
def Tv(sj:List Bool)(oQ:Nat)(uE:List Int)(qx:((List Int)×(List Int)×Nat)→Option gF):(List Int)→Option gF:=fun Hf=>
 (idx sj (oQ:Int)).bind fun x69=>
 if x69 then
  (aX (decide ((uE.length+([(oQ:Int)]:List Int).length)*8≤140737488355328))<|
  Tt qx oQ (Hf,(uE++([(oQ:Int)]:List Int))))
 else
  (Tt qx oQ (Hf,uE))
def acE(AV:List Int)(uE:List Int):Unit→Option gF:=fun _=>
 some (gF.mk AV uE)
def acA(aW:List Task)(uZ:List Bool)(sj:List Bool)(qx:((List Int)×(List Int)×Nat)→Option gF):((List Int)×(List Int)×Nat)→Option gF:=fun (AV,uE,oQ)=>
 if decide ((oQ:Int)<(aW.length:Int)) then
  ((idx uZ (oQ:Int)).bind fun x75=>
  if (!x75) then
   (aX (decide ((AV.length+([(oQ:Int)]:List Int).length)*8≤140737488355328))<|
   Tv sj oQ uE qx (AV++([(oQ:Int)]:List Int)))
  else
   (Tv sj oQ uE qx AV))
 else
  (acE AV uE ())
def acD(aW:List Task)(uZ:List Bool)(sj:List Bool):Unit→Option gF:=fun _=>
 iter (acA aW uZ sj) FUEL (([]:List Int),([]:List Int),0)
def acy(aW:List Task)(r0:Rules)(nI:List Int)(gY:((List Bool)×(List Bool)×(List Int))→Option gF):((List Bool)×(List Bool)×(List Int))→Option gF:=fun (uZ,sj,Cc)=>
 if decide (0<(Cc.length:Int)) then
  ((idx Cc 0).bind fun x34=>
  (sub Cc 1 (Cc.length:Int)).bind fun l36=>
  iter (acz aW x34 r0 nI gY) FUEL (uZ,sj,l36,0))
 else
  (acD aW uZ sj ())
def acC(aW:List Task)(r0:Rules)(nI:List Int)(AY:List Bool)(m18:List Bool)(DI:List Int):Unit→Option gF:=fun _=>
 iter (acy aW r0 nI) FUEL (AY,m18,DI)
def acw(bY:List Int)(aW:List Task)(r0:Rules)(nI:List Int)(m18:List Bool)(cu:((List Bool)×(List Int)×Nat)→Option gF):((List Bool)×(List Int)×Nat)→Option gF:=fun (AY,DI,vE)=>
 if decide ((vE:Int)<(bY.length:Int)) then
  ((idx bY (vE:Int)).bind fun x24=>
  if decide (x24=(-1)) then
   ((idx AY (vE:Int)).bind fun x27=>
   aX (decide ((DI.length+([(vE:Int)]:List Int).length)*8≤140737488355328))<|
   Tq cu vE ((AY.set (vE:Int).toNat true),(DI++([(vE:Int)]:List Int))))
  else
   (Tq cu vE (AY,DI)))
 else
  (acC aW r0 nI AY m18 DI ())
def acB(aW:List Task)(bY:List Int)(r0:Rules)(nI:List Int):Unit→Option gF:=fun _=>
 (mk (α:=Bool) false (aW.length:Int)).bind fun m15=>
 (mk (α:=Bool) false (aW.length:Int)).bind fun m18=>
 iter (acw bY aW r0 nI m18) FUEL (m15,([]:List Int),0)
def acv(m3:List Int)(bY:List Int)(aW:List Task)(r0:Rules)(aN:((List Int)×Nat)→Option gF):((List Int)×Nat)→Option gF:=fun (nI,Ee)=>
 if decide ((Ee:Int)<(m3.length:Int)) then
  ((aa5 bY (Ee:Int)).bind fun iG=>
  (idx nI (Ee:Int)).bind fun dz=>
  aN ((nI.set (Ee:Int).toNat iG),Ee+1))
 else
  (acB aW bY r0 nI ())
def XP(aW:List Task)(r0:Rules)(bY:List Int):Option gF:=
 (mk (α:=Int) 0 (aW.length:Int)).bind fun m3=>
 iter (acv m3 bY aW r0) FUEL (m3,0)
theorem ahW(S:bF)(w:World)(aW:List Task)(dU:ak.R (List Task))(r0:Rules)(aC:ak.R Rules)(bY:List Int)(gV:ak.R (List Int))(y:gF)(hM:XP aW r0 bY=some y)(hS:sB S w)(Dr:ak.ok S w dU aW)(ku:ak.ok S w aC r0)(FJ:ak.ok S w gV bY):
   Calls Tryz.prog 56 #[sL dU aW,.agg (BK r0 aC),sL gV bY] w (Post (β:=(ak.R gF)) S [] (fun g=> .agg (IW y g)) (fun g=>[ah 3 g.1 y.Left,ah 3 g.2 y.Right]) w):=by
 refine bW (args:=[_,_,_]) Tryz.func56 rfl ((pre_nil hS).start |>.dZ (α:=List Task) (r:=dU) (x:=aW) Dr|>.Hq ku|>.dZ (α:=List Int) (r:=gV) (x:=bY) FJ) rfl ?_;unfold XP at hM;refine sr ?_;refine oB (kS r0 aC) fun b1=>?_;refine oA rfl fun b2=>?_;refine on ?_;refine aJ ?_;refine oe bf ?_;obtain⟨m3,Pv,hM⟩:=bind_some hM;refine aY (yw (α:=Int) (e:=3) 0 () Pv (fun _ _=>trivial) (fun r5 hr5=>?_));refine aL ?_;refine aF fun K3 hK3=>?_;refine aJ ?_;refine gU (fun w hm=>Kn.len (Kn.ah (e:=3) (r:=r5) hA) hm) fun Ud=>?_;refine oe bf ?_;refine om ?_;refine on ?_;refine aV ?_;refine dJ (fun w hm=>hm.dR (α:=Int) 3 (fun _=>())) ?_;refine dJ (fun w hm=>hm.dR (α:=Int) 3 (fun _=>())) ?_;refine lq hM (fun (nI,Ee)=>[(0,eS dU aW),(2,eS gV bY),(4,eP b1),(6,eP b2),(7,eS r5 nI),(25,eI (m3.length:Int)),(26,eI (Ee:Int))]) (fun (nI,Ee)=>[iL aW dU,iL bY gV,iL r0.fB aC.1,iL r0.gW aC.2,own b1 95 (kS r0 aC),ah 3 eB ([]:List Int),ah 3 eB ([]:List Int),own b2 99 [z0,z0],ah 3 r5 nI]) sS rI ?_
 clear hM;rintro aN ⟨nI,Ee⟩ hM fQ hL1;dsimp only[acv] at hM ⊢;refine sr ?_;refine oe bK ?_;refine on ?_;refine aF fun K6 bU=>?_;refine cc rfl hM (fun rY hM=>?_) (fun rY hM=>?_)
 ·have aj4:=of_decide_eq_true rY;refine aM (bU _ _ ?_);clear bU;refine aF fun K7 eU=>?_;refine aV ?_;refine aJ ?_;refine aL ?_;refine aT ?_;refine om ?_;refine om ?_;refine om ?_;refine om ?_;obtain⟨iG,tN,hM⟩:=bind_some hM;refine cv (fun hs=>anB _ _ bY gV (Ee:Int) iG tN (bq hs) (kM hs)) ?_;obtain⟨dz,lU,hM⟩:=bind_some hM;refine oe (aQ (xs:=nI) 1 (Kn.ah (e:=3) (r:=r5) hA) (iS lU)) ?_;refine aY (qm (r:=r5) (i:=(Ee:Int)) (xs:=nI) (u:=dz) (vs:=[vI iG]) 0 iG lU rfl (fun _ _ h=>h) uA ?_);have qB:=nP (u:=iG) lU;refine aU (eU _ _ ?_);clear eU;refine aT ?_;refine oe (dh (hr:=fun _=>by unfold dS;omega)) ?_;refine om ?_;refine aU (hL1 hM ⟨rfl,rfl,rfl,rfl,(by simp only[List.length_set,eS,sL];rfl),rfl,rfl,trivial⟩ rI)
 refine bX (hK3 _ _ ?_);clear hK3;dsimp only[acB] at hM;refine aJ ?_;refine oe bf ?_;obtain⟨m15,akr,hM⟩:=bind_some hM;refine aY (yw (α:=Bool) (e:=4) false () akr (fun _ _=>trivial) (fun jv aoA=>?_));refine aL ?_;refine aJ ?_;refine oe bf ?_;obtain⟨m18,aks,hM⟩:=bind_some hM;refine aY (yw (α:=Bool) (e:=4) false () aks (fun _ _=>trivial) (fun kE aoC=>?_));refine aL ?_;refine bg ?_;refine aF fun vN iI=>?_;refine aJ ?_;refine gU (fun w hm=>Kn.len (kG bY gV) hm) fun aop=>?_;refine oe bf ?_;refine om ?_;refine on ?_;refine aV ?_;refine dJ (fun w hm=>hm.dR (α:=Int) 3 (fun _=>())) ?_;refine lp eB hM (fun (AY,DI,vE) J9=>[(0,eS dU aW),(4,eP b1),(6,eP b2),(7,eS r5 nI),(9,eS jv AY),(10,eS kE m18),(11,eS J9 DI),(42,eS gV bY),(43,eI (bY.length:Int)),(44,eI (vE:Int))]) (fun (AY,DI,vE) J9=>[iL aW dU,iL r0.fB aC.1,iL r0.gW aC.2,own b1 95 (kS r0 aC),ah 3 eB ([]:List Int),ah 3 eB ([]:List Int),own b2 99 [z0,z0],ah 3 r5 nI,ah 4 jv AY,ah 4 kE m18,ah 3 J9 DI,iL bY gV]) sS rI ?_
 clear hM;rintro cu ⟨AY,DI,vE⟩ J9 hM qM hL2;dsimp only[acw] at hM ⊢;refine sr ?_;refine oe bK ?_;refine on ?_;refine aF fun yE jN=>?_;refine cc rfl hM (fun yN hM=>?_) (fun yN hM=>?_)
 ·have ajM:=of_decide_eq_true yN;refine aM (jN _ _ ?_);clear jN;refine jn (SR (ak.R Int)) y (k:=Tq cu vE) (fun (Ma,Mj) RQ=>[(0,eS dU aW),(4,eP b1),(6,eP b2),(7,eS r5 nI),(9,eS jv Ma),(10,eS kE m18),(11,eS RQ Mj),(42,eS gV bY),(43,eI (bY.length:Int)),(44,eI (vE:Int))]) (fun (Ma,Mj) RQ=>[iL aW dU,iL r0.fB aC.1,iL r0.gW aC.2,own b1 95 (kS r0 aC),ah 3 eB ([]:List Int),ah 3 eB ([]:List Int),own b2 99 [z0,z0],ah 3 r5 nI,ah 4 jv Ma,ah 4 kE m18,ah 3 RQ Mj,iL bY gV]) ?_ ?_
  · intro IU hJ3;refine aV ?_;refine aJ ?_;obtain⟨x24,hx25,hM⟩:=bind_some hM;refine oe (aQ (xs:=bY) 1 (kG bY gV) (iS hx25)) ?_;refine oe (bE (i:=(vE:Int)) (xs:=bY) (y:=x24) 0 (kG bY gV) (fun _=>hx25)) ?_;refine oa ?_;refine aL ?_;refine aJ ?_;refine oe fI ?_;refine on ?_;refine cc rfl hM (fun Ll hM=>?_) (fun Ll hM=>?_)
    ·refine aJ ?_;refine om ?_;obtain⟨x27,hx28,hM⟩:=bind_some hM;refine oe (aQ (xs:=AY) 1 (Kn.ah (e:=4) (r:=jv) hA) (iS hx28)) ?_;refine aY (qm (r:=jv) (i:=(vE:Int)) (xs:=AY) (u:=x27) (vs:=[.bool true]) 0 true hx28 rfl (fun _ _ h=>h) uA ?_);have hx29:=nP (u:=true) hx28;refine on ?_;refine aT ?_;refine om ?_;refine om ?_;refine aY (fH (α:=Int) 3 (fun _=>()) ([(vE:Int)]:List Int) oF (fun Cr=>?_));obtain⟨YI,hM⟩:=bQ hM;refine aY (jy (r:=J9) (r2:=Cr) uR (Kn.ah (e:=3) (r:=Cr) hA) oF (of_decide_eq_true YI) (fun Ct=>?_));refine oa ?_;refine aU (hJ3 Ct hM ⟨rfl,rfl,rfl,rfl,(by simp only[List.length_set,eS,sL];rfl),rfl,rfl,rfl,rfl,rfl,trivial⟩ rI)
    refine aM (hJ3 J9 hM sS rI)
  clear hM;rintro⟨Ma,Mj⟩ RQ hM;dsimp only[Tq] at hM ⊢;refine aT ?_;refine oe (dh (hr:=fun _=>by unfold dS;omega)) ?_;refine om ?_;refine aU (hL2 RQ hM sS rI)
 refine bX (iI _ _ ?_);clear iI;dsimp only[acC] at hM;refine aF fun CX mE=>?_;refine aV ?_;refine lp J9 hM (fun (uZ,sj,Cc) Ka=>[(0,eS dU aW),(4,eP b1),(6,eP b2),(7,eS r5 nI),(9,eS jv uZ),(10,eS kE sj),(11,eS Ka Cc)]) (fun (uZ,sj,Cc) Ka=>[iL aW dU,iL r0.fB aC.1,iL r0.gW aC.2,own b1 95 (kS r0 aC),ah 3 eB ([]:List Int),ah 3 eB ([]:List Int),own b2 99 [z0,z0],ah 3 r5 nI,ah 4 jv uZ,ah 4 kE sj,ah 3 Ka Cc]) sS rI ?_;clear hM;rintro gY ⟨uZ,sj,Cc⟩ Ka hM zC hL3
 dsimp only[acy] at hM ⊢;refine aF fun CY mF=>?_;refine aJ ?_;refine oe bf ?_;refine oe eO ?_;refine on ?_;refine cc rfl hM (fun FM hM=>?_) (fun FM hM=>?_)
 ·refine aM (mF _ _ ?_);clear mF;refine aV ?_;refine aJ ?_;obtain⟨x34,BQ,hM⟩:=bind_some hM;refine oe (aQ (xs:=Cc) 1 (Kn.ah (e:=3) (r:=Ka) hA) (iS BQ)) ?_;refine oe (bE (i:=0) (xs:=Cc) (y:=x34) 0 (Kn.ah (e:=3) (r:=Ka) hA) (fun _=>BQ)) ?_;refine aL ?_;refine aJ ?_;obtain⟨l36,ako,hM⟩:=bind_some hM;refine aY (anI (r:=Ka) (xs:=Cc) (ol:=some (.i64,1)) (oh:=none) uR ako (fun Cu=>?_));refine aL ?_;refine aJ ?_;refine gU (fun w hm=>Kn.len (kG aW dU) hm) fun aot=>?_;refine oe bf ?_;refine om ?_;refine on ?_;refine aV ?_;refine lp Cu hM (fun (yV,yY,EI,tC) Ii=>[(0,eS dU aW),(4,eP b1),(6,eP b2),(7,eS r5 nI),(9,eS jv yV),(10,eS kE yY),(11,eS Ii EI),(14,eI x34),(68,eI (aW.length:Int)),(69,eI (tC:Int))]) (fun (yV,yY,EI,tC) Ii=>[iL aW dU,iL r0.fB aC.1,iL r0.gW aC.2,own b1 95 (kS r0 aC),ah 3 eB ([]:List Int),ah 3 eB ([]:List Int),own b2 99 [z0,z0],ah 3 r5 nI,ah 4 jv yV,ah 4 kE yY,ah 3 Ii EI]) sS rI ?_
  clear hM;rintro nG ⟨yV,yY,EI,tC⟩ Ii hM KF hL4;dsimp only[acz] at hM ⊢;refine sr ?_;refine oe bK ?_;refine on ?_;refine aF fun Gz qA=>?_;refine cc rfl hM (fun Pp hM=>?_) (fun Pp hM=>?_)
  · have ajQ:=of_decide_eq_true Pp;refine aM (qA _ _ ?_);clear qA;refine jn (SR (ak.R Int)) y (k:=OA nG tC) (fun (Mc,Mq,Mk) RS=>[(0,eS dU aW),(4,eP b1),(6,eP b2),(7,eS r5 nI),(9,eS jv Mc),(10,eS kE Mq),(11,eS RS Mk),(14,eI x34),(68,eI (aW.length:Int)),(69,eI (tC:Int))]) (fun (Mc,Mq,Mk) RS=>[iL aW dU,iL r0.fB aC.1,iL r0.gW aC.2,own b1 95 (kS r0 aC),ah 3 eB ([]:List Int),ah 3 eB ([]:List Int),own b2 99 [z0,z0],ah 3 r5 nI,ah 4 jv Mc,ah 4 kE Mq,ah 3 RS Mk]) ?_ ?_
    ·intro N8 vS;refine aV ?_;refine aJ ?_;refine aL ?_;refine aF fun SE zM=>?_;refine aF fun IQ rX=>?_;refine fE _ (List.Sublist.refl _) ?_;refine aj 0 rfl (bM (b:=b1)) ?_;refine aj 1 rfl aH ?_;refine aj 2 rfl aH ?_;obtain⟨x41,Pz,hM⟩:=bind_some hM;refine aj 3 rfl (aQ (xs:=aW) 5 (kG aW dU) (iS Pz)) ?_;refine aj 4 rfl (eY (m:=5) (i:=x34) (xs:=aW) (y:=x41) (l:=(qh x41)) 0 (kG aW dU) (fun _=>Pz)) ?_;refine aj 5 rfl aH ?_;refine aj 6 rfl aH ?_;obtain⟨x43,aeh,hM⟩:=bind_some hM;refine aj 7 rfl (aQ (xs:=aW) 5 (kG aW dU) (iS aeh)) ?_;refine aj 8 rfl (eY (m:=5) (i:=(tC:Int)) (xs:=aW) (y:=x43) (l:=(qh x43)) 0 (kG aW dU) (fun _=>aeh)) ?_;obtain⟨uM,PL,hM⟩:=bind_some hM;refine dX 9 rfl (sV (fun hs=>acs _ _ r0 aC x41 x43 uM PL (bq hs) ⟨(kM hs),(kM hs)⟩) ⟨rI,?_⟩);refine aj 10 rfl aH ?_
     refine aj 11 rfl (jl (vs:=[vI uM.1,.bool uM.2])) ?_;refine aj 12 rfl (jl (vs:=[vI uM.1,.bool uM.2])) ?_;refine aj 13 rfl dL ?_;refine aj 14 rfl dL ?_;refine dK (rX _ _ ?_);clear rX;refine aJ ?_;refine oe dN ?_;refine om ?_;refine au rfl aH ?_;refine au rfl aH ?_;obtain⟨oD,zT,hM⟩:=bind_some hM;refine au rfl (aQ (xs:=yY) 1 (Kn.ah (e:=4) (r:=kE) hA) (fun hg=>let h:=jG (dF zT hg);⟨h.1,h.2.1⟩)) ?_;refine au rfl (bE (i:=(tC:Int)) (xs:=yY) (y:=oD) 0 (Kn.ah (e:=4) (r:=kE) hA) (fun hg=>dF zT hg)) ?_;refine oe bP ?_;refine on ?_;refine cc rfl hM (fun YQ hM=>?_) (fun YQ hM=>?_)
     ·refine bX (vS Ii hM sS rI)
     refine aM (zM _ _ ?_);clear zM;refine aJ ?_;refine om ?_;obtain⟨x50,Zd,hM⟩:=bind_some hM;refine oe (aQ (xs:=yY) 1 (Kn.ah (e:=4) (r:=kE) hA) (iS Zd)) ?_;refine aY (qm (r:=kE) (i:=(tC:Int)) (xs:=yY) (u:=x50) (vs:=[.bool true]) 0 true Zd rfl (fun _ _ h=>h) uA ?_);have Ze:=nP (u:=true) Zd;refine on ?_;refine aJ ?_;refine om ?_;obtain⟨mI,BR,hM⟩:=bind_some hM;refine oe (aQ (xs:=nI) 1 (Kn.ah (e:=3) (r:=r5) hA) (iS BR)) ?_;refine oe (bE (i:=(tC:Int)) (xs:=nI) (y:=mI) 0 (Kn.ah (e:=3) (r:=r5) hA) (fun _=>BR)) ?_;refine aL ?_;refine aJ ?_;refine oe ig ?_;refine om ?_;refine au rfl aH ?_;refine au rfl aH ?_;obtain⟨x55,FR,hM⟩:=bind_some hM;refine au rfl (aQ (xs:=yV) 1 (Kn.ah (e:=4) (r:=jv) hA) (fun hg=>let h:=jG (dF FR hg);⟨h.1,h.2.1⟩)) ?_;refine au rfl (bE (i:=mI) (xs:=yV) (y:=x55) 0 (Kn.ah (e:=4) (r:=jv) hA) (fun hg=>dF FR hg)) ?_;refine au rfl dN ?_;refine oe dB ?_;refine on ?_;refine cc rfl hM (fun ajU hM=>?_) (fun ajU hM=>?_)
     ·refine aJ ?_;refine om ?_;obtain⟨x58,Zg,hM⟩:=bind_some hM;refine oe (aQ (xs:=yV) 1 (Kn.ah (e:=4) (r:=jv) hA) (iS Zg)) ?_;refine aY (qm (r:=jv) (i:=mI) (xs:=yV) (u:=x58) (vs:=[.bool true]) 0 true Zg rfl (fun _ _ h=>h) uA ?_);have Zh:=nP (u:=true) Zg;refine on ?_;refine aT ?_;refine om ?_;refine om ?_;refine aY (fH (α:=Int) 3 (fun _=>()) ([mI]:List Int) oF (fun r61=>?_));obtain⟨ajA,hM⟩:=bQ hM;refine aY (jy (r:=Ii) (r2:=r61) uR (Kn.ah (e:=3) (r:=r61) hA) oF (of_decide_eq_true ajA) (fun r62=>?_));refine oa ?_;refine aU (vS r62 hM ⟨rfl,rfl,rfl,rfl,(by simp only[List.length_set,eS,sL];rfl),(by simp only[List.length_set,eS,sL];rfl),rfl,rfl,rfl,rfl,trivial⟩ rI)
     refine aM (vS Ii hM ⟨rfl,rfl,rfl,rfl,rfl,(by simp only[List.length_set,eS,sL];rfl),rfl,rfl,rfl,rfl,trivial⟩ rI)
    clear hM;rintro⟨Mc,Mq,Mk⟩ RS hM;dsimp only[OA] at hM ⊢;refine aT ?_;refine oe (dh (hr:=fun _=>by unfold dS;omega)) ?_;refine om ?_;refine aU (hL4 RS hM sS rI)
  refine bX (hL3 Ii hM sS rI)
 refine bX (mE _ _ ?_);clear mE;dsimp only[acD] at hM;refine sr ?_;refine oA rfl fun b64=>?_;refine on ?_;refine aF fun K36 Pb=>?_;refine aJ ?_;refine gU (fun w hm=>Kn.len (kG aW dU) hm) fun aow=>?_;refine oe bf ?_;refine om ?_;refine on ?_;refine aV ?_;refine dJ (fun w hm=>hm.dR (α:=Int) 3 (fun _=>())) ?_;refine dJ (fun w hm=>hm.dR (α:=Int) 3 (fun _=>())) ?_;refine lp (eB,eB) hM (fun (AV,uE,oQ) (H7,D7)=>[(6,eP b2),(9,eS jv uZ),(10,eS kE sj),(19,eP b64),(118,eI (aW.length:Int)),(119,eI (oQ:Int))]) (fun (AV,uE,oQ) (H7,D7)=>[ah 3 eB ([]:List Int),ah 3 eB ([]:List Int),own b2 99 [z0,z0],ah 4 jv uZ,ah 4 kE sj,ah 3 H7 AV,ah 3 D7 uE,own b64 99 [sL H7 AV,sL D7 uE]]) sS rI ?_
 clear hM;rintro qx ⟨AV,uE,oQ⟩ ⟨H7,D7⟩ hM SH hL5;dsimp only[acA] at hM ⊢;refine sr ?_;refine oe bK ?_;refine on ?_;refine aF fun Xl Dq=>?_;refine cc rfl hM (fun Ub hM=>?_) (fun Ub hM=>?_)
 ·have aoj:=of_decide_eq_true Ub;refine aM (Dq _ _ ?_);clear Dq;refine jn ((SR (ak.R Int))×(SR (ak.R Int))) y (k:=Tt qx oQ) (fun (LZ,L6) (QT,QU)=>[(6,eP b2),(9,eS jv uZ),(10,eS kE sj),(19,eP b64),(118,eI (aW.length:Int)),(119,eI (oQ:Int))]) (fun (LZ,L6) (QT,QU)=>[ah 3 eB ([]:List Int),ah 3 eB ([]:List Int),own b2 99 [z0,z0],ah 4 jv uZ,ah 4 kE sj,ah 3 QT LZ,ah 3 QU L6,own b64 99 [sL QT LZ,sL QU L6]]) ?_ ?_
  · intro KJ7 O9;refine aV ?_;refine aJ ?_;refine aL ?_;refine jn (SR (ak.R Int)) y (k:=Tv sj oQ uE qx) (fun Hf JY=>[(6,eP b2),(9,eS jv uZ),(10,eS kE sj),(19,eP b64),(20,eI (oQ:Int)),(118,eI (aW.length:Int)),(119,eI (oQ:Int))]) (fun Hf JY=>[ah 3 eB ([]:List Int),ah 3 eB ([]:List Int),own b2 99 [z0,z0],ah 4 jv uZ,ah 4 kE sj,ah 3 JY Hf,ah 3 D7 uE,own b64 99 [sL JY Hf,sL D7 uE]]) ?_ ?_
    ·intro KJ8 hJ8;refine aJ ?_;refine om ?_;obtain⟨x75,aen,hM⟩:=bind_some hM;refine oe (aQ (xs:=uZ) 1 (Kn.ah (e:=4) (r:=jv) hA) (iS aen)) ?_;refine oe (bE (i:=(oQ:Int)) (xs:=uZ) (y:=x75) 0 (Kn.ah (e:=4) (r:=jv) hA) (fun _=>aen)) ?_;refine oe dN ?_;refine on ?_;refine cc rfl hM (fun aj2 hM=>?_) (fun aj2 hM=>?_)
     ·refine aT ?_;refine oe (ay 0) ?_;refine oe (aD (b:=b64)) ?_;refine om ?_;refine aY (fH (α:=Int) 3 (fun _=>()) ([(oQ:Int)]:List Int) oF (fun r78=>?_));obtain⟨ajG,hM⟩:=bQ hM;refine aY (jy (r:=H7) (r2:=r78) uR (Kn.ah (e:=3) (r:=r78) hA) oF (of_decide_eq_true ajG) (fun r79=>?_));refine oe (ay 0) ?_;refine aY (jT (b:=b64) (l':=[.slice r79.a ((AV++([(oQ:Int)]:List Int)).length) r79.cap,sL D7 uE]) (k:=?_));refine aU (hJ8 r79 hM sS rI)
     refine aM (hJ8 H7 hM sS rI)
    clear hM;rintro Hf JY hM;dsimp only[Tv] at hM ⊢;refine aJ ?_;refine om ?_;obtain⟨x69,PD,hM⟩:=bind_some hM;refine oe (aQ (xs:=sj) 1 (Kn.ah (e:=4) (r:=kE) hA) (iS PD)) ?_;refine oe (bE (i:=(oQ:Int)) (xs:=sj) (y:=x69) 0 (Kn.ah (e:=4) (r:=kE) hA) (fun _=>PD)) ?_;refine on ?_;refine cc rfl hM (fun aj0 hM=>?_) (fun aj0 hM=>?_)
    ·refine aT ?_;refine oe (ay 1) ?_;refine oe (aD (b:=b64)) ?_;refine om ?_;refine aY (fH (α:=Int) 3 (fun _=>()) ([(oQ:Int)]:List Int) oF (fun r72=>?_));obtain⟨ajE,hM⟩:=bQ hM;refine aY (jy (r:=D7) (r2:=r72) uR (Kn.ah (e:=3) (r:=r72) hA) oF (of_decide_eq_true ajE) (fun r73=>?_));refine oe (ay 1) ?_;refine aY (jT (b:=b64) (l':=[sL JY Hf,.slice r73.a ((uE++([(oQ:Int)]:List Int)).length) r73.cap]) (k:=?_));refine aU (O9 (JY,r73) hM sS rI)
    refine aM (O9 (JY,D7) hM sS rI)
  clear hM;rintro⟨LZ,L6⟩ ⟨QT,QU⟩ hM;dsimp only[Tt] at hM ⊢;refine aT ?_;refine oe (dh (hr:=fun _=>by unfold dS;omega)) ?_;refine om ?_;refine aU (hL5 (QT,QU) hM sS rI)
 refine bX (Pb _ _ ?_);clear Pb;dsimp only[acE] at hM;refine sr ?_;refine oe (bM (b:=b64)) ?_;refine oS b2 [sL H7 AV,sL D7 uE] ?_;refine on ?_;obtain rfl:=some_inj hM;refine aP (tO (fun w hm=>gK (H7,D7) hm rfl))
def Tj(uL:Nat)(gY:((List jA)×Nat)→Option ((List Int)×gF×Int)):(List jA)→Option ((List Int)×gF×Int):=fun Me=>
 aX (bA ((uL:Int)+1))<|
 gY (Me,uL+1)
def ab4(tq:Nat)(cu:((List jA)×Nat)→Option ((List Int)×gF×Int))(BZ:List jA):Unit→Option ((List Int)×gF×Int):=fun _=>
 aX (bA ((tq:Int)+1))<|
 cu (BZ,tq+1)
def abZ(aW:List Task)(tq:Nat)(r0:Rules)(cu:((List jA)×Nat)→Option ((List Int)×gF×Int))(gY:((List jA)×Nat)→Option ((List Int)×gF×Int)):((List jA)×Nat)→Option ((List Int)×gF×Int):=fun (BZ,uL)=>
 if decide ((uL:Int)<(aW.length:Int)) then
  ((idx aW (tq:Int)).bind fun CQ=>
  (idx aW (uL:Int)).bind fun x38=>
  (Tp r0 CQ x38).bind fun BG=>
  if BG.2 then
   (aX (bA ((aW.length:Int)+(uL:Int)))<|
   aX (bA (BG.1-288001))<|
   aX (decide ((BZ.length+([(jA.mk (tq:Int) ((aW.length:Int)+(uL:Int)) 1 (BG.1-288001))]:List jA).length)*32≤140737488355328))<|
   Tj uL gY (BZ++([(jA.mk (tq:Int) ((aW.length:Int)+(uL:Int)) 1 (BG.1-288001))]:List jA)))
  else
   (Tj uL gY BZ))
 else
  (ab4 tq cu BZ ())
def Tk(pE:Int)(qx:((List Int)×Int)→Option ((List Int)×gF×Int)):(List Int)→Option ((List Int)×gF×Int):=fun Mg=>
 aX (bA (pE+1))<|
 qx (Mg,(pE+1))
def ab6(aW:List Task)(r0:Rules)(xR:List Int):Unit→Option ((List Int)×gF×Int):=fun _=>
 (XP aW r0 xR).bind fun wM=>
 some (xR,wM,0)
def ab1(nR:List jA)(lQ:Flow×Int)(aW:List Task)(r0:Rules)(qx:((List Int)×Int)→Option ((List Int)×gF×Int)):((List Int)×Int)→Option ((List Int)×gF×Int):=fun (xR,pE)=>
 if decide (pE<(nR.length:Int)) then
  ((idx lQ.1.X pE).bind fun x68=>
  if decide (x68=1) then
   ((idx nR pE).bind fun SB=>
   (idx nR pE).bind fun Kw=>
   aX (bA (Kw.To-(aW.length:Int)))<|
   (idx xR SB.From).bind fun x76=>
   Tk pE qx (xR.set SB.From.toNat (Kw.To-(aW.length:Int))))
  else
   (Tk pE qx xR))
 else
  (ab6 aW r0 xR ())
def ab5(kH:List Int)(nR:List jA)(aW:List Task)(r0:Rules)(Ca:List Int):Unit→Option ((List Int)×gF×Int):=fun _=>
 (X8 (Graph.mk kH nR)).bind fun lQ=>
 if decide (lQ.2≠0) then
  (some (([]:List Int),(gF.mk ([]:List Int) ([]:List Int)),lQ.2))
 else
  (aX (bA (2*(aW.length:Int)))<|
  iter (ab1 nR lQ aW r0) FUEL (Ca,(2*(aW.length:Int))))
def ab0(Mt:List Int)(kH:List Int)(nR:List jA)(aW:List Task)(r0:Rules)(nG:((List Int)×Nat)→Option ((List Int)×gF×Int)):((List Int)×Nat)→Option ((List Int)×gF×Int):=fun (Ca,Gn)=>
 if decide ((Gn:Int)<(Mt.length:Int)) then
  ((idx Ca (Gn:Int)).bind fun x54=>
  nG ((Ca.set (Gn:Int).toNat (-1)),Gn+1))
 else
  (ab5 kH nR aW r0 Ca ())
def ab3(aW:List Task)(kH:List Int)(nR:List jA)(r0:Rules):Unit→Option ((List Int)×gF×Int):=fun _=>
 (mk (α:=Int) 0 (aW.length:Int)).bind fun Mt=>
 iter (ab0 Mt kH nR aW r0) FUEL (Mt,0)
def abY(aW:List Task)(r0:Rules)(kH:List Int)(cu:((List jA)×Nat)→Option ((List Int)×gF×Int)):((List jA)×Nat)→Option ((List Int)×gF×Int):=fun (nR,tq)=>
 if decide ((tq:Int)<(aW.length:Int)) then
  (iter (abZ aW tq r0 cu) FUEL (nR,0))
 else
  (ab3 aW kH nR r0 ())
def ab2(aW:List Task)(r0:Rules)(kH:List Int)(A9:List jA):Unit→Option ((List Int)×gF×Int):=fun _=>
 iter (abY aW r0 kH) FUEL (A9,0)
def abX(aW:List Task)(r0:Rules)(aN:((List Int)×(List jA)×Nat)→Option ((List Int)×gF×Int)):((List Int)×(List jA)×Nat)→Option ((List Int)×gF×Int):=fun (kH,A9,pO)=>
 if decide ((pO:Int)<(aW.length:Int)) then
  (aX (bA ((aW.length:Int)+(pO:Int)))<|
  (idx kH (pO:Int)).bind fun x20=>
  (idx (kH.set (pO:Int).toNat 1) ((aW.length:Int)+(pO:Int))).bind fun x23=>
  aX (bA (2*(aW.length:Int)))<|
  aX (bA (2*(aW.length:Int)))<|
  aX (bA ((aW.length:Int)+(pO:Int)))<|
  aX (decide ((A9.length+([(jA.mk (pO:Int) (2*(aW.length:Int)) 1 0),(jA.mk (2*(aW.length:Int)) ((aW.length:Int)+(pO:Int)) 1 0)]:List jA).length)*32≤140737488355328))<|
  aX (bA ((pO:Int)+1))<|
  aN (((kH.set (pO:Int).toNat 1).set ((aW.length:Int)+(pO:Int)).toNat (-1)),(A9++([(jA.mk (pO:Int) (2*(aW.length:Int)) 1 0),(jA.mk (2*(aW.length:Int)) ((aW.length:Int)+(pO:Int)) 1 0)]:List jA)),pO+1))
 else
  (ab2 aW r0 kH A9 ())
def XL(aW:List Task)(r0:Rules):Option ((List Int)×gF×Int):=
 (XO aW r0).bind fun y3=>
 if (!y3) then
  (some (([]:List Int),(gF.mk ([]:List Int) ([]:List Int)),1))
 else
  (aX (bA (2*(aW.length:Int)))<|
  aX (bA ((2*(aW.length:Int))+1))<|
  (mk (α:=Int) 0 ((2*(aW.length:Int))+1)).bind fun m11=>
  iter (abX aW r0) FUEL (m11,([]:List jA),0))
theorem ahS(S:bF)(w:World)(aW:List Task)(dU:ak.R (List Task))(r0:Rules)(aC:ak.R Rules)(y:(List Int)×gF×Int)(hM:XL aW r0=some y)(hS:sB S w)(Dr:ak.ok S w dU aW)(ku:ak.ok S w aC r0):
   Calls Tryz.prog 25 #[sL dU aW,.agg (BK r0 aC)] w (Post (β:=(ak.R (List Int))×(ak.R gF)) S [] (fun g=> .tuple #[sL g.1 y.1,.agg (IW y.2.1 g.2),vI y.2.2]) (fun g=>[ah 3 g.1 y.1,ah 3 g.2.1 y.2.1.Left,ah 3 g.2.2 y.2.1.Right]) w):=by
 refine bW (args:=[_,_]) Tryz.func25 rfl ((pre_nil hS).start |>.dZ (α:=List Task) (r:=dU) (x:=aW) Dr|>.Hq ku) rfl ?_;unfold XL at hM;refine sr ?_;refine oB (kS r0 aC) fun b1=>?_;refine oa ?_;refine oA rfl fun b2=>?_;refine aL ?_;refine aF fun K2 hK2=>?_;refine aJ ?_;refine oe (bM (b:=b1)) ?_;obtain⟨y3,hy4,hM⟩:=bind_some hM;refine cv (fun hs=>ahU _ _ aW dU r0 aC y3 hy4 (bq hs) (kM hs) ⟨(kM hs),(kM hs)⟩) ?_;refine oe dN ?_;refine on ?_;refine cc rfl hM (fun jO hM=>?_) (fun jO hM=>?_)
 ·refine sr ?_;refine oe (gD [z0,z0]) ?_;refine oa ?_;refine oS b2 [z0,z0] ?_;refine aL ?_;refine dJ (fun w hm=>hm.dR (α:=Int) 3 (fun _=>())) ?_;refine dJ (fun w hm=>hm.dR (α:=Int) 3 (fun _=>())) ?_;refine dJ (fun w hm=>hm.dR (α:=Int) 3 (fun _=>())) ?_;obtain rfl:=some_inj hM;refine aP (EB (fun w hm=>gK (eB,(eB,eB)) hm rfl))
 refine aM (hK2 _ _ ?_);clear hK2;refine aJ ?_;refine oe bf ?_;refine aL ?_;refine aJ ?_;obtain⟨O8,hM⟩:=bQ hM;refine oe (rC (hr:=fun hg=>dI O8)) ?_;refine oP hM fun hM=>?_;obtain⟨m11,akp,hM⟩:=bind_some hM;refine aY (yw (α:=Int) (e:=3) 0 () akp (fun _ _=>trivial) (fun gN aoy=>?_));refine oe (gD [sL gN m11,z0]) ?_;refine oA rfl fun b14=>?_;refine oS b14 [sL gN m11,z0] ?_;refine on ?_;refine aF fun K7 eU=>?_;refine aJ ?_;refine om ?_;refine on ?_;refine aV ?_;refine dJ (fun w hm=>hm.dR (α:=jA) 131 (fun _=>())) ?_;refine dJ (fun w hm=>hm.dR (α:=Int) 3 (fun _=>())) ?_;refine dJ (fun w hm=>hm.dR (α:=Int) 3 (fun _=>())) ?_;refine lp alQ hM (fun (kH,A9,pO) Ig=>[(0,eS dU aW),(3,eP b1),(5,eP b2),(7,eI (aW.length:Int)),(8,eP b14),(31,eI (aW.length:Int)),(32,eI (pO:Int))]) (fun (kH,A9,pO) Ig=>[iL aW dU,iL r0.fB aC.1,iL r0.gW aC.2,own b1 95 (kS r0 aC),ah 3 eB ([]:List Int),ah 3 eB ([]:List Int),own b2 99 [z0,z0],ah 3 gN kH,ah 131 Ig A9,own b14 129 [sL gN kH,sL Ig A9]]) sS rI ?_
 clear hM;rintro aN ⟨kH,A9,pO⟩ Ig hM fQ hL1;dsimp only[abX] at hM ⊢;refine sr ?_;refine oe bK ?_;refine on ?_;refine aF fun sK gy=>?_;refine cc rfl hM (fun hc18 hM=>?_) (fun hc18 hM=>?_)
 ·refine aM (gy _ _ ?_);clear gy;refine aF fun pR eH=>?_;refine aV ?_;refine aJ ?_;refine aL ?_;refine aF fun rU fT=>?_;refine fE [iL aW dU,iL r0.fB aC.1,iL r0.gW aC.2,own b1 95 (kS r0 aC),ah 3 eB ([]:List Int),ah 3 eB ([]:List Int),own b2 99 [z0,z0],ah 131 Ig A9,own b14 129 [sL gN kH,sL Ig A9]] (by repeat (first|exact List.Sublist.refl _|apply List.Sublist.cons_cons|apply List.Sublist.cons)) ?_;refine aj 0 rfl (ay 0) ?_;refine aj 1 rfl (aD (b:=b14)) ?_;refine aj 2 rfl aH ?_;refine aj 3 rfl (ay 0) ?_;refine aj 4 rfl (aD (b:=b14)) ?_;refine aj 5 rfl aH ?_;refine aj 6 rfl aH ?_;obtain⟨O4,hM⟩:=bQ hM
  refine aj 7 rfl (dh (hr:=fun hg=>dI O4)) ?_;obtain⟨x20,BP,hM⟩:=bind_some hM;refine dX 8 rfl (ND (aQ (xs:=kH) 1 (Kn.ah (e:=3) (r:=gN) hA) (iS BP)) ⟨rI,?_⟩);refine dX 9 rfl (qm (r:=gN) (i:=(pO:Int)) (xs:=kH) (u:=x20) (vs:=[vI 1]) 0 1 BP rfl (fun _ _ h=>h) uA ⟨rI,?_⟩);have vT:=nP (u:=1) BP;obtain⟨x23,hx24,hM⟩:=bind_some hM;refine dX 10 rfl (ND (aQ (xs:=(kH.set (pO:Int).toNat 1)) 1 (Kn.ah (e:=3) (r:=gN) hA) (iS hx24)) ⟨rI,?_⟩);refine dX 11 rfl (qm (r:=gN) (i:=((aW.length:Int)+(pO:Int))) (xs:=(kH.set (pO:Int).toNat 1)) (u:=x23) (vs:=[vI (-1)]) 0 (-1) hx24 rfl (fun _ _ h=>h) uA ⟨rI,?_⟩);have hx25:=nP (u:=(-1)) hx24;refine dK (fT _ _ ?_);clear fT;refine aT ?_;refine oe (ay 1) ?_;refine oe (aD (b:=b14)) ?_;refine om ?_;refine om ?_;obtain⟨Jf,hM⟩:=bQ hM;refine oe (rC (hr:=fun hg=>dI Jf)) ?_;refine oe (gD [vI (pO:Int),vI (2*(aW.length:Int)),vI 1,vI 0]) ?_;refine om ?_;obtain⟨O5,hM⟩:=bQ hM;refine oe (rC (hr:=fun hg=>dI O5)) ?_;refine om ?_;refine om ?_;refine oP hM fun hM=>?_;refine oe (gD [vI (2*(aW.length:Int)),vI ((aW.length:Int)+(pO:Int)),vI 1,vI 0]) ?_
  refine aY (fH (α:=jA) 131 (fun _=>()) ([(jA.mk (pO:Int) (2*(aW.length:Int)) 1 0),(jA.mk (2*(aW.length:Int)) ((aW.length:Int)+(pO:Int)) 1 0)]:List jA) oF (fun yc=>?_));obtain⟨ajo,hM⟩:=bQ hM;refine aY (jy (r:=Ig) (r2:=yc) uR (Kn.ah (e:=131) (r:=yc) hA) oF (of_decide_eq_true ajo) (fun Cr=>?_));refine oe (ay 1) ?_;refine aY (jT (b:=b14) (l':=[sL gN kH,.slice Cr.a ((A9++([(jA.mk (pO:Int) (2*(aW.length:Int)) 1 0),(jA.mk (2*(aW.length:Int)) ((aW.length:Int)+(pO:Int)) 1 0)]:List jA)).length) Cr.cap]) (k:=?_));refine aU (eH _ _ ?_);clear eH;refine aT ?_;refine oP hM fun hM=>?_;refine om ?_;refine aU (hL1 Cr hM sS (fun w hm=>by simp only[List.length_set,eS,sL,IW,JI,SQ,Mx,BK,kS];exact hm.jw))
 refine bX (eU _ _ ?_);clear eU;dsimp only[ab2] at hM;refine aF fun zA kg=>?_;refine aJ ?_;refine om ?_;refine on ?_;refine aV ?_;refine lp Ig hM (fun (nR,tq) wE=>[(0,eS dU aW),(3,eP b1),(5,eP b2),(7,eI (aW.length:Int)),(8,eP b14),(61,eI (aW.length:Int)),(62,eI (tq:Int))]) (fun (nR,tq) wE=>[iL aW dU,iL r0.fB aC.1,iL r0.gW aC.2,own b1 95 (kS r0 aC),ah 3 eB ([]:List Int),ah 3 eB ([]:List Int),own b2 99 [z0,z0],ah 3 gN kH,ah 131 wE nR,own b14 129 [sL gN kH,sL wE nR]]) sS rI ?_
 clear hM;rintro cu ⟨nR,tq⟩ wE hM qM hL2;dsimp only[abY] at hM ⊢;refine sr ?_;refine oe bK ?_;refine on ?_;refine aF fun Fh oG=>?_;refine cc rfl hM (fun FM hM=>?_) (fun FM hM=>?_)
 ·refine aM (oG _ _ ?_);clear oG;refine aF fun El nH=>?_;refine aV ?_;refine aJ ?_;refine aL ?_;refine aJ ?_;refine om ?_;refine on ?_;refine aV ?_;refine lp wE hM (fun (BZ,uL) J7=>[(0,eS dU aW),(3,eP b1),(5,eP b2),(7,eI (aW.length:Int)),(8,eP b14),(10,eI (tq:Int)),(61,eI (aW.length:Int)),(62,eI (tq:Int)),(65,eI (aW.length:Int)),(66,eI (uL:Int))]) (fun (BZ,uL) J7=>[iL aW dU,iL r0.fB aC.1,iL r0.gW aC.2,own b1 95 (kS r0 aC),ah 3 eB ([]:List Int),ah 3 eB ([]:List Int),own b2 99 [z0,z0],ah 3 gN kH,ah 131 J7 BZ,own b14 129 [sL gN kH,sL J7 BZ]]) sS rI ?_
  clear hM;rintro gY ⟨BZ,uL⟩ J7 hM zC hL3;dsimp only[abZ] at hM ⊢;refine sr ?_;refine oe bK ?_;refine on ?_;refine aF fun CZ ni=>?_;refine cc rfl hM (fun hc34 hM=>?_) (fun hc34 hM=>?_)
  · refine aM (ni _ _ ?_);clear ni;refine jn (SR (ak.R jA)) y (k:=Tj uL gY) (fun Me Rx=>[(0,eS dU aW),(3,eP b1),(5,eP b2),(7,eI (aW.length:Int)),(8,eP b14),(10,eI (tq:Int)),(61,eI (aW.length:Int)),(62,eI (tq:Int)),(65,eI (aW.length:Int)),(66,eI (uL:Int))]) (fun Me Rx=>[iL aW dU,iL r0.fB aC.1,iL r0.gW aC.2,own b1 95 (kS r0 aC),ah 3 eB ([]:List Int),ah 3 eB ([]:List Int),own b2 99 [z0,z0],ah 3 gN kH,ah 131 Rx Me,own b14 129 [sL gN kH,sL Rx Me]]) ?_ ?_
    ·intro KE rD;refine aV ?_;refine aJ ?_;refine aL ?_;refine aF fun Gy qz=>?_;refine fE _ (List.Sublist.refl _) ?_;refine aj 0 rfl (bM (b:=b1)) ?_;refine aj 1 rfl aH ?_;refine aj 2 rfl aH ?_;obtain⟨CQ,Py,hM⟩:=bind_some hM;refine aj 3 rfl (aQ (xs:=aW) 5 (kG aW dU) (iS Py)) ?_;refine aj 4 rfl (eY (m:=5) (i:=(tq:Int)) (xs:=aW) (y:=CQ) (l:=(qh CQ)) 0 (kG aW dU) (fun _=>Py)) ?_;refine aj 5 rfl aH ?_;refine aj 6 rfl aH ?_;obtain⟨x38,hx39,hM⟩:=bind_some hM;refine aj 7 rfl (aQ (xs:=aW) 5 (kG aW dU) (iS hx39)) ?_;refine aj 8 rfl (eY (m:=5) (i:=(uL:Int)) (xs:=aW) (y:=x38) (l:=(qh x38)) 0 (kG aW dU) (fun _=>hx39)) ?_;obtain⟨BG,akI,hM⟩:=bind_some hM;refine dX 9 rfl (sV (fun hs=>acs _ _ r0 aC CQ x38 BG akI (bq hs) ⟨(kM hs),(kM hs)⟩) ⟨rI,?_⟩);refine aj 10 rfl aH ?_;refine aj 11 rfl (jl (vs:=[vI BG.1,.bool BG.2])) ?_
     refine aj 12 rfl (jl (vs:=[vI BG.1,.bool BG.2])) ?_;refine aj 13 rfl dL ?_;refine aj 14 rfl dL ?_;refine dK (qz _ _ ?_);clear qz;refine aJ ?_;refine on ?_;refine cc rfl hM (fun ajR hM=>?_) (fun ajR hM=>?_)
     ·refine aT ?_;refine oe (ay 1) ?_;refine oe (aD (b:=b14)) ?_;refine om ?_;refine om ?_;refine om ?_;refine oP hM fun hM=>?_;refine om ?_;refine oN hM fun hM=>?_;refine oe (gD [vI (tq:Int),vI ((aW.length:Int)+(uL:Int)),vI 1,vI (BG.1-288001)]) ?_;refine aY (fH (α:=jA) 131 (fun _=>()) ([(jA.mk (tq:Int) ((aW.length:Int)+(uL:Int)) 1 (BG.1-288001))]:List jA) oF (fun Gh=>?_));obtain⟨YJ,hM⟩:=bQ hM;refine aY (jy (r:=J7) (r2:=Gh) uR (Kn.ah (e:=131) (r:=Gh) hA) oF (of_decide_eq_true YJ) (fun r46=>?_));refine oe (ay 1) ?_;refine aY (jT (b:=b14) (l':=[sL gN kH,.slice r46.a ((BZ++([(jA.mk (tq:Int) ((aW.length:Int)+(uL:Int)) 1 (BG.1-288001))]:List jA)).length) r46.cap]) (k:=?_));refine aU (rD r46 hM sS rI)
     refine aM (rD J7 hM sS rI)
    clear hM;rintro Me Rx hM;dsimp only[Tj] at hM ⊢;refine aT ?_;refine oP hM fun hM=>?_;refine om ?_;refine aU (hL3 Rx hM sS rI)
  refine bX (nH _ _ ?_);clear nH;dsimp only[ab4] at hM;refine aT ?_;refine oP hM fun hM=>?_;refine om ?_;refine aU (hL2 J7 hM sS rI)
 refine bX (kg _ _ ?_);clear kg;dsimp only[ab3] at hM;refine aJ ?_;obtain⟨Mt,akt,hM⟩:=bind_some hM;refine aY (yw (α:=Int) (e:=3) 0 () akt (fun _ _=>trivial) (fun yh aoF=>?_));refine aL ?_;refine aF fun N7 wR=>?_;refine aJ ?_;refine gU (fun w hm=>Kn.len (Kn.ah (e:=3) (r:=yh) hA) hm) fun aov=>?_;refine oe bf ?_;refine om ?_;refine on ?_;refine aV ?_;refine lq hM (fun (Ca,Gn)=>[(0,eS dU aW),(3,eP b1),(5,eP b2),(7,eI (aW.length:Int)),(8,eP b14),(14,eS yh Ca),(100,eI (Mt.length:Int)),(101,eI (Gn:Int))]) (fun (Ca,Gn)=>[iL aW dU,iL r0.fB aC.1,iL r0.gW aC.2,own b1 95 (kS r0 aC),ah 3 eB ([]:List Int),ah 3 eB ([]:List Int),own b2 99 [z0,z0],ah 3 gN kH,ah 131 wE nR,own b14 129 [sL gN kH,sL wE nR],ah 3 yh Ca]) sS rI ?_
 clear hM;rintro nG ⟨Ca,Gn⟩ hM KF hL4;dsimp only[ab0] at hM ⊢;refine sr ?_;refine oe bK ?_;refine on ?_;refine aF fun KD uy=>?_;refine cc rfl hM (fun Lm hM=>?_) (fun Lm hM=>?_)
 ·have aoi:=of_decide_eq_true Lm;refine aM (uy _ _ ?_);clear uy;refine aF fun SF zN=>?_;refine aV ?_;refine aJ ?_;refine aL ?_;refine aT ?_;refine om ?_;refine om ?_;obtain⟨x54,Zf,hM⟩:=bind_some hM;refine oe (aQ (xs:=Ca) 1 (Kn.ah (e:=3) (r:=yh) hA) (iS Zf)) ?_;refine aY (qm (r:=yh) (i:=(Gn:Int)) (xs:=Ca) (u:=x54) (vs:=[vI (-1)]) 0 (-1) Zf rfl (fun _ _ h=>h) uA ?_);have FR:=nP (u:=(-1)) Zf;refine aU (zN _ _ ?_);clear zN;refine aT ?_;refine oe (dh (hr:=fun _=>by unfold dS;omega)) ?_;refine om ?_;refine aU (hL4 hM ⟨rfl,rfl,rfl,rfl,rfl,(by simp only[List.length_set,eS,sL];rfl),rfl,rfl,trivial⟩ rI)
 refine bX (wR _ _ ?_);clear wR;dsimp only[ab5] at hM;refine sr ?_;refine oe (bM (b:=b14)) ?_;obtain⟨lQ,PO,hM⟩:=bind_some hM;refine aY (fP jL.nil (fun S w hs hP=>aiz _ w (Graph.mk kH nR) (gN,wE) lQ PO (bq hs) ⟨(kT hs),(kT hs)⟩) fO (fun tY=>?_));dsimp only[cA,nA];refine om ?_;refine oe (jl (vs:=[.agg (SQ lQ.1 tY),vI lQ.2])) ?_;refine oe (jl (vs:=[.agg (SQ lQ.1 tY),vI lQ.2])) ?_;refine oA rfl fun I4=>?_;refine oS I4 (Mx lQ.1 tY) ?_;refine aL ?_;refine aF fun K34 G5=>?_;refine aJ ?_;refine oe gH ?_;refine on ?_;refine cc rfl hM (fun ajX hM=>?_) (fun ajX hM=>?_)
 ·refine sr ?_;refine oe (gD [z0,z0]) ?_;refine om ?_;refine oa ?_;refine oS b2 [z0,z0] ?_;refine aL ?_;refine dJ (fun w hm=>hm.dR (α:=Int) 3 (fun _=>())) ?_;refine dJ (fun w hm=>hm.dR (α:=Int) 3 (fun _=>())) ?_;refine dJ (fun w hm=>hm.dR (α:=Int) 3 (fun _=>())) ?_;obtain rfl:=some_inj hM;refine aP (EB (fun w hm=>gK (eB,(eB,eB)) hm rfl))
 refine aM (G5 _ _ ?_);clear G5;refine aF fun Xk Dp=>?_;refine aJ ?_;obtain⟨ai1,hM⟩:=bQ hM;refine oe (rC (hr:=fun hg=>dI ai1)) ?_;refine aL ?_;refine aV ?_;refine lq hM (fun (xR,pE)=>[(0,eS dU aW),(3,eP b1),(5,eP b2),(7,eI (aW.length:Int)),(8,eP b14),(14,eS yh xR),(16,eP I4),(18,eI pE)]) (fun (xR,pE)=>[iL aW dU,iL r0.fB aC.1,iL r0.gW aC.2,own b1 95 (kS r0 aC),ah 3 eB ([]:List Int),ah 3 eB ([]:List Int),own b2 99 [z0,z0],ah 3 gN kH,ah 131 wE nR,own b14 129 [sL gN kH,sL wE nR],ah 3 yh xR,ah 3 tY.1 lQ.1.X,ah 3 tY.2 lQ.1.Fp,own I4 135 (Mx lQ.1 tY)]) sS rI ?_
 clear hM;rintro qx ⟨xR,pE⟩ hM SH hL5;dsimp only[ab1] at hM ⊢;refine aF fun Xl Dq=>?_;refine aJ ?_;refine oe (ay 1) ?_;refine oe (aD (b:=b14)) ?_;refine oe bf ?_;refine oe bK ?_;refine on ?_;refine cc rfl hM (fun Pq hM=>?_) (fun Pq hM=>?_)
 ·refine aM (Dq _ _ ?_);clear Dq;refine jm y (k:=Tk pE qx) (fun Mg=>[(0,eS dU aW),(3,eP b1),(5,eP b2),(7,eI (aW.length:Int)),(8,eP b14),(14,eS yh Mg),(16,eP I4),(18,eI pE)]) (fun Mg=>[iL aW dU,iL r0.fB aC.1,iL r0.gW aC.2,own b1 95 (kS r0 aC),ah 3 eB ([]:List Int),ah 3 eB ([]:List Int),own b2 99 [z0,z0],ah 3 gN kH,ah 131 wE nR,own b14 129 [sL gN kH,sL wE nR],ah 3 yh Mg,ah 3 tY.1 lQ.1.X,ah 3 tY.2 lQ.1.Fp,own I4 135 (Mx lQ.1 tY)]) ?_ ?_
  · intro KJ7 O9;refine aV ?_;refine sr ?_;refine oe (ay 0) ?_;refine oe (aD (b:=I4)) ?_;refine om ?_;obtain⟨x68,Zj,hM⟩:=bind_some hM;refine oe (aQ (xs:=lQ.1.X) 1 (Kn.ah (e:=3) (r:=tY.1) hA) (iS Zj)) ?_;refine oe (bE (i:=pE) (xs:=lQ.1.X) (y:=x68) 0 (Kn.ah (e:=3) (r:=tY.1) hA) (fun _=>Zj)) ?_;refine oe fI ?_;refine on ?_;refine cc rfl hM (fun ajZ hM=>?_) (fun ajZ hM=>?_)
    ·refine mZ [iL aW dU,iL r0.fB aC.1,iL r0.gW aC.2,own b1 95 (kS r0 aC),ah 3 eB ([]:List Int),ah 3 eB ([]:List Int),own b2 99 [z0,z0],ah 3 gN kH,ah 131 wE nR,own b14 129 [sL gN kH,sL wE nR],ah 3 yh xR,ah 3 tY.1 lQ.1.X,ah 3 tY.2 lQ.1.Fp,own I4 135 (Mx lQ.1 tY)] 16 ?_;refine aI 0 rfl aH ?_;refine aI 1 rfl (ay 1) ?_;refine aI 2 rfl (aD (b:=b14)) ?_;refine aI 3 rfl aH ?_;obtain⟨SB,Ls,hM⟩:=bind_some hM;refine aI 4 rfl (aQ (xs:=nR) 4 (Kn.ah (e:=131) (r:=wE) hA) (iS Ls)) ?_;refine aI 5 rfl (ay 0) ?_;refine aI 6 rfl (bE (i:=pE) (xs:=nR) (y:=SB) 0 (Kn.ah (e:=131) (r:=wE) hA) (fun _=>Ls)) ?_
     refine aI 7 rfl (ay 1) ?_;refine aI 8 rfl (aD (b:=b14)) ?_;refine aI 9 rfl aH ?_;obtain⟨Kw,aem,hM⟩:=bind_some hM;refine aI 10 rfl (aQ (xs:=nR) 4 (Kn.ah (e:=131) (r:=wE) hA) (iS aem)) ?_;refine aI 11 rfl (ay 1) ?_;refine aI 12 rfl (bE (i:=pE) (xs:=nR) (y:=Kw) 1 (Kn.ah (e:=131) (r:=wE) hA) (fun _=>aem)) ?_;refine aI 13 rfl aH ?_;obtain⟨Yy,hM⟩:=bQ hM;refine aI 14 rfl (mQ (hr:=fun hg=>dI Yy)) ?_;obtain⟨x76,Zm,hM⟩:=bind_some hM;refine aI 15 rfl (aQ (xs:=xR) 1 (Kn.ah (e:=3) (r:=yh) hA) (iS Zm)) ?_;refine mX rfl (qm (r:=yh) (i:=SB.From) (xs:=xR) (u:=x76) (vs:=[vI (Kw.To-(aW.length:Int))]) 0 (Kw.To-(aW.length:Int)) Zm rfl (fun _ _ h=>h) uA ?_);have Ui:=nP (u:=(Kw.To-(aW.length:Int))) Zm;refine mW (O9 hM ⟨rfl,rfl,rfl,rfl,rfl,(by simp only[List.length_set,eS,sL];rfl),rfl,rfl,trivial⟩ rI)
    refine aM (O9 hM sS rI)
  clear hM;rintro Mg hM;dsimp only[Tk] at hM ⊢;refine aT ?_;refine om ?_;refine oP hM fun hM=>?_;refine oa ?_;refine aU (hL5 hM sS rI)
 refine bX (Dp _ _ ?_);clear Dp;dsimp only[ab6] at hM;refine aJ ?_;refine om ?_;refine oe (bM (b:=b1)) ?_;refine om ?_;obtain⟨wM,Zz,hM⟩:=bind_some hM;refine aY (fP jL.nil (fun S w hs hP=>ahW _ w aW dU r0 aC xR yh wM Zz (bq hs) (kM hs) ⟨(kM hs),(kM hs)⟩ (kT hs)) fO (fun r81=>?_));dsimp only[cA,nA];refine oa ?_;refine oS b2 (JI wM r81) ?_;refine aL ?_;obtain rfl:=some_inj hM;refine aP (EB (fun w hm=>gK (yh,r81) hm rfl))
def UJ:Option Bool:=
 (aac).bind fun y1=>
 (XL y1.1 y1.2).bind fun y5=>
 (XM y5.1).bind fun y9=>
 if (decide (y5.2.2=0)&&decide (y9.2=0)) then
 ((UC y5.1 ([1,(-1),(-1)]:List Int)).bind fun bZ=>
 (dW ((decide (y5.2.2=0)&&decide (y9.2=0))&&bZ) default (Vn y1.1 y1.2 y5.1 y5.2.1)).bind fun qo=>
 if (((decide (y5.2.2=0)&&decide (y9.2=0))&&bZ)&&qo) then
 ((UA y9.1 ([([0,1]:List Int),([2]:List Int)]:List (List Int))).bind fun y22=>
 some ((((decide (y5.2.2=0)&&decide (y9.2=0))&&bZ)&&qo)&&y22))
 else
 (some false))
 else
 ((dW false default (Vn y1.1 y1.2 y5.1 y5.2.1)).bind fun y24=>
 if (false&&y24) then
 ((UA y9.1 ([([0,1]:List Int),([2]:List Int)]:List (List Int))).bind fun o9=>
 some ((false&&y24)&&o9))
 else
 (some false))
theorem alp(S:bF)(w:World)(y:Bool)(hM:UJ=some y)(hS:sB S w):
   Calls Tryz.prog 10 #[] w (dw w (.bool y)):=by
 refine bW (args:=[]) Tryz.func10 rfl ((pre_nil hS).start) rfl ?_;unfold UJ at hM;refine bg ?_;refine sr ?_;obtain⟨y1,hy2,hM⟩:=bind_some hM;refine aY (fP jL.nil (fun S w hs hP=>alq _ w y1 hy2 (bq hs)) fO (fun r3=>?_));dsimp only[cA,nA];refine om ?_;refine oe (jl (vs:=[sL r3.1 y1.1,.agg (BK y1.2 r3.2)])) ?_;refine oe (jl (vs:=[sL r3.1 y1.1,.agg (BK y1.2 r3.2)])) ?_;refine oA rfl fun b4=>?_;refine oa ?_;refine oS b4 (kS y1.2 r3.2) ?_;refine on ?_;refine aJ ?_;refine oe (bM (b:=b4)) ?_;obtain⟨y5,yS,hM⟩:=bind_some hM;refine aY (fP jL.nil (fun S w hs hP=>ahS _ w y1.1 r3.1 y1.2 r3.2 y5 yS (bq hs) (kT hs) ⟨(kT hs),(kT hs)⟩) fO (fun r7=>?_))
 dsimp only[cA,nA];refine om ?_;refine oe (jl (vs:=[sL r7.1 y5.1,.agg (IW y5.2.1 r7.2),vI y5.2.2])) ?_;refine oe (jl (vs:=[sL r7.1 y5.1,.agg (IW y5.2.1 r7.2),vI y5.2.2])) ?_;refine oe (jl (vs:=[sL r7.1 y5.1,.agg (IW y5.2.1 r7.2),vI y5.2.2])) ?_;refine oA rfl fun b8=>?_;refine oa ?_;refine oS b8 (JI y5.2.1 r7.2) ?_;refine aL ?_;refine aJ ?_;refine qG (fun w hm=>hm.freeze (r:=r7.1) uA) ?_;obtain⟨y9,yO,hM⟩:=bind_some hM;refine aY (nV jL.nil (fun S w hs hP=>ahT _ w y5.1 r7.1 y9 yO hs.lt (kI hs)) (fun Cm=>?_));dsimp only[cA,nA];refine om ?_;refine oe (jl (vs:=[sL Cm y9.1,vI y9.2])) ?_;refine oe (jl (vs:=[sL Cm y9.1,vI y9.2])) ?_;refine oa ?_
 refine aL ?_;refine aJ ?_;refine oe fI ?_;refine om ?_;refine au rfl aH ?_;refine au rfl fI ?_;refine oe dB ?_;refine om ?_;refine au rfl aH ?_;refine QE (decide (y5.2.2=0)&&decide (y9.2=0)) (fun FN=>?_) (fun FN=>?_)
 ·replace hM:=iT FN hM;refine ze 31 FN rfl ?_;refine wz rfl FN ?_;refine aY (fH (α:=Int) 3 (fun _=>()) ([1,(-1),(-1)]:List Int) oF (fun gN=>?_));refine wz rfl FN ?_;obtain⟨bZ,pX,hM⟩:=bind_some hM;refine cv (fun hs=>aeB _ _ y5.1 r7.1 ([1,(-1),(-1)]:List Int) gN bZ pX (bq hs) (kM hs) (kT hs)) ?_;refine oe dB ?_;refine om ?_;refine au rfl aH ?_;refine au rfl (bM (b:=b4)) ?_;refine au rfl aH ?_;refine au rfl (bM (b:=b8)) ?_;obtain⟨qo,FV,hM⟩:=bind_some hM;refine cg rfl (fun hg hs=>afP _ _ y1.1 r3.1 y1.2 r3.2 y5.1 r7.1 y5.2.1 r7.2 qo (dF FV hg) (bq hs) (kT hs) ⟨(kT hs),(kT hs)⟩ (kM hs) ⟨(kT hs),(kT hs)⟩) ?_;refine oe dB ?_;refine om ?_;refine au rfl aH ?_;refine QE (((decide (y5.2.2=0)&&decide (y9.2=0))&&bZ)&&qo) (fun AB=>?_) (fun AB=>?_)
  · replace hM:=iT AB hM;refine ze 43 AB rfl ?_;refine wz rfl AB ?_;refine aY (fH (α:=Int) 3 (fun _=>()) ([0,1]:List Int) oF (fun rO=>?_));refine wz rfl AB ?_;refine aY (fH (α:=Int) 3 (fun _=>()) ([2]:List Int) oF (fun kE=>?_));refine wz rfl AB ?_;refine qG (fun w hm=>hm.freeze (r:=rO) uA) ?_;refine qG (fun w hm=>hm.freeze (r:=kE) uA) ?_;refine aY (fH (α:=List Int) 22 (fun i=>match i with|0=>rO|_=>kE) ([([0,1]:List Int),([2]:List Int)]:List (List Int)) (mD.cons (fun S w hs=>(kI hs)) (mD.cons (fun S w hs=>(kI hs)) mD.nil)) (fun vv=>?_));refine wz rfl AB ?_;obtain⟨y22,yR,hM⟩:=bind_some hM;refine cv (fun hs=>aex _ _ y9.1 Cm ([([0,1]:List Int),([2]:List Int)]:List (List Int)) vv y22 yR (bq hs) (kT hs) (kT hs)) ?_;refine oe dB ?_;refine aL ?_;exact aP (bD hM)
  replace hM:=iF AB hM;refine wu rfl AB ?_;refine wu rfl AB ?_;refine wu rfl AB ?_;refine wu rfl AB ?_;refine oe (Jc AB) ?_;refine aL ?_;exact aP (bD hM)
 replace hM:=iF FN hM;refine wu rfl FN ?_;refine wu rfl FN ?_;refine oe (Jc FN) ?_;refine om ?_;refine au rfl aH ?_;refine au rfl (bM (b:=b4)) ?_;refine au rfl aH ?_;refine au rfl (bM (b:=b8)) ?_;obtain⟨y24,hy25,hM⟩:=bind_some hM;refine cg rfl (fun hg hs=>afP _ _ y1.1 r3.1 y1.2 r3.2 y5.1 r7.1 y5.2.1 r7.2 y24 (dF hy25 hg) (bq hs) (kT hs) ⟨(kT hs),(kT hs)⟩ (kM hs) ⟨(kT hs),(kT hs)⟩) ?_;refine oe dB ?_;refine om ?_;refine au rfl aH ?_;refine QE (false&&y24) (fun AJ=>?_) (fun AJ=>?_)
 ·replace hM:=iT AJ hM;refine ze 43 AJ rfl ?_;refine wz rfl AJ ?_;refine aY (fH (α:=Int) 3 (fun _=>()) ([0,1]:List Int) oF (fun JR=>?_));refine wz rfl AJ ?_;refine aY (fH (α:=Int) 3 (fun _=>()) ([2]:List Int) oF (fun Cq=>?_));refine wz rfl AJ ?_;refine qG (fun w hm=>hm.freeze (r:=JR) uA) ?_;refine qG (fun w hm=>hm.freeze (r:=Cq) uA) ?_;refine aY (fH (α:=List Int) 22 (fun i=>match i with|0=>JR|_=>Cq) ([([0,1]:List Int),([2]:List Int)]:List (List Int)) (mD.cons (fun S w hs=>(kI hs)) (mD.cons (fun S w hs=>(kI hs)) mD.nil)) (fun yc=>?_));refine wz rfl AJ ?_;obtain⟨o9,hy31,hM⟩:=bind_some hM;refine cv (fun hs=>aex _ _ y9.1 Cm ([([0,1]:List Int),([2]:List Int)]:List (List Int)) yc o9 hy31 (bq hs) (kT hs) (kT hs)) ?_;refine oe dB ?_;refine aL ?_;exact aP (bD hM)
 replace hM:=iF AJ hM;refine wu rfl AJ ?_;refine wu rfl AJ ?_;refine wu rfl AJ ?_;refine wu rfl AJ ?_;refine oe (Jc AJ) ?_;refine aL ?_;exact aP (bD hM)
end Go.Proofs.YtcalibhfgdncaaaGreat

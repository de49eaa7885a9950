/- Models of functions, and that the code computes them. -/
import Derived.Test.YtcalibhfgdncaaaGreatR0
set_option linter.all false
namespace Go.Proofs.YtcalibhfgdncaaaGreat
open Go.Dc Go.RowKit
set_option maxRecDepth 10000
def M7(c0:Int):Option Bool:=
 some ((decide (97≤c0)&&decide (c0≤122))||(decide (65≤c0)&&decide (c0≤90)))
theorem afv(S:bF)(w:World)(c0:Int)(y:Bool)(hM:M7 c0=some y)(hS:sB S w):
  Calls Tryz.prog 110 #[.int .u8 c0] w (dw w (.bool y)):=by
 refine bW (args:=[_]) Tryz.func110 rfl ((pre_nil hS).start) rfl ?_;unfold M7 at hM;refine bg ?_;refine aJ ?_;refine oe ig ?_;refine om ?_;refine au rfl aH ?_;refine au rfl kD ?_;refine oe dB ?_;refine om ?_;refine au rfl aH ?_;refine au rfl ig ?_;refine au rfl aH ?_;refine au rfl aH ?_;refine au rfl kD ?_;refine au rfl dB ?_;refine oe bP ?_;refine aL ?_;exact aP (bD hM)
def afs:Unit→Option Bool:=fun _=>
 some true
def Q5(s0:Str)(aN:Nat→Option Bool):Nat→Option Bool:=fun bI=>
 if decide ((bI:Int)<(s0.l.length:Int)) then
  ((Au s0 (bI:Int)).bind fun c7=>
  (M7 c7).bind fun y9=>
  (dW (!y9) 0 (Au s0 (bI:Int))).bind fun c11=>
  (dW (!y9) default (Vh c11)).bind fun y13=>
  (dW ((!y9)&&(!y13)) 0 (Au s0 (bI:Int))).bind fun c15=>
  if (((!y9)&&(!y13))&&decide (c15≠95)) then
   (some false)
  else
   (aX (bA ((bI:Int)+1))<|
   aN (bI+1)))
 else
  (afs ())
def J3(s0:Str):Option Bool:=
 (dW (!(decide ((s0.l.length:Int)<1)||decide (12<(s0.l.length:Int)))) 0 (Au s0 0)).bind fun c1=>
 (dW (!(decide ((s0.l.length:Int)<1)||decide (12<(s0.l.length:Int)))) default (M7 c1)).bind fun y3=>
 if ((decide ((s0.l.length:Int)<1)||decide (12<(s0.l.length:Int)))||(!y3)) then
  (some false)
 else
  (iter (Q5 s0) FUEL 1)
theorem aaA(S:bF)(w:World)(s0:Str)(y:Bool)(hM:J3 s0=some y)(hS:sB S w):
   Calls Tryz.prog 85 #[.string s0.ba] w (dw w (.bool y)):=by
 refine bW (args:=[_]) Tryz.func85 rfl ((pre_nil hS).start) rfl ?_;unfold J3 at hM;refine bg ?_;refine aF fun K2 hK2=>?_;refine aJ ?_;refine oe Le ?_;refine oe bK ?_;refine om ?_;refine au rfl aH ?_;refine au rfl Le ?_;refine au rfl eO ?_;refine oe bP ?_;refine om ?_;refine au rfl aH ?_;obtain⟨c1,YU,hM⟩:=bind_some hM;refine au rfl (GY (dF YU)) ?_;obtain⟨y3,hy4,hM⟩:=bind_some hM;refine cg rfl (fun hg hs=>afv _ _ c1 y3 (dF hy4 hg) (bq hs)) ?_;refine au rfl dN ?_;refine oe bP ?_;refine on ?_;refine cc rfl hM (fun jO hM=>?_) (fun jO hM=>?_)
 ·refine bg ?_;exact aP (bD hM)
 refine aM (hK2 _ _ ?_);clear hK2;refine aF fun K5 bT=>?_;refine bg ?_;refine aV ?_;refine lq hM (fun bI=>[(0,.v (.string s0.ba)),(3,eI (bI:Int))]) (fun bI=>[]) sS rI ?_;clear hM;rintro aN bI hM fQ hL1;dsimp only[Q5] at hM ⊢;refine aF fun K7 eU=>?_;refine aJ ?_;refine om ?_;refine oe Le ?_;refine oe bK ?_;refine on ?_;refine cc rfl hM (fun hc6 hM=>?_) (fun hc6 hM=>?_)
 ·refine aM (eU _ _ ?_);clear eU;refine aF fun K9 dY=>?_;refine aV ?_;refine aJ ?_;refine om ?_;obtain⟨c7,aj9,hM⟩:=bind_some hM;refine oe (GY (fun _=>aj9)) ?_;obtain⟨y9,yO,hM⟩:=bind_some hM;refine cv (fun hs=>afv _ _ c7 y9 yO (bq hs)) ?_;refine oe dN ?_;refine om ?_;refine au rfl aH ?_;refine au rfl aH ?_;obtain⟨c11,aj5,hM⟩:=bind_some hM;refine au rfl (GY (dF aj5)) ?_;obtain⟨y13,FU,hM⟩:=bind_some hM;refine cg rfl (fun hg hs=>amw _ _ c11 y13 (dF FU hg) (bq hs)) ?_;refine au rfl dN ?_;refine oe dB ?_;refine om ?_;refine au rfl aH ?_;refine au rfl aH ?_;obtain⟨c15,aj7,hM⟩:=bind_some hM;refine au rfl (GY (dF aj7)) ?_;refine au rfl gH ?_;refine oe dB ?_;refine on ?_;refine cc rfl hM (fun hc17 hM=>?_) (fun hc17 hM=>?_)
  · refine bg ?_;exact aP (bD hM)
  refine aM (dY _ _ ?_);clear dY;refine aT ?_;refine om ?_;refine oP hM fun hM=>?_;refine oa ?_;refine aU (hL1 hM sS rI)
 refine bX (bT _ _ ?_);clear bT;dsimp only[afs] at hM;refine bg ?_;exact aP (bD hM)
def afw:Unit→Option Int:=fun _=>
 some 0
def Q9(i0:Int)(l0:List Str)(aN:Nat→Option Int):Nat→Option Int:=fun jc=>
 if decide ((jc:Int)<i0) then
  ((idx l0 (jc:Int)).bind fun x7=>
  (idx l0 i0).bind fun x9=>
  if decide (x7=x9) then
   (some 5)
  else
   (aX (bA ((jc:Int)+1))<|
   aN (jc+1)))
 else
  (afw ())
def H9(l0:List Str)(i0:Int):Option Int:=
 (idx l0 i0).bind fun x1=>
 (J3 x1).bind fun y3=>
 if (!y3) then
  (some 3)
 else
  (iter (Q9 i0 l0) FUEL 0)
theorem aaE(S:bF)(w:World)(l0:List Str)(aG:ak.R (List Str))(i0:Int)(y:Int)(hM:H9 l0 i0=some y)(hS:sB S w)(eT:ak.ok S w aG l0):
   Calls Tryz.prog 81 #[sL aG l0,vI i0] w (dw w (vI y)):=by
 refine bW (args:=[_,_]) Tryz.func81 rfl ((pre_nil hS).start |>.dZ (α:=List Str) (r:=aG) (x:=l0) eT) rfl ?_;unfold H9 at hM;refine bg ?_;refine aF fun K2 hK2=>?_;refine aJ ?_;refine om ?_;obtain⟨x1,hx2,hM⟩:=bind_some hM;refine oe (aQ (xs:=l0) 1 (kG l0 aG) (iS hx2)) ?_;refine oe (bE (i:=i0) (xs:=l0) (y:=x1) 0 (kG l0 aG) (fun _=>hx2)) ?_;obtain⟨y3,hy4,hM⟩:=bind_some hM;refine cv (fun hs=>aaA _ _ x1 y3 hy4 (bq hs)) ?_;refine oe dN ?_;refine on ?_;refine cc rfl hM (fun jO hM=>?_) (fun jO hM=>?_)
 ·refine bg ?_;exact aP (bD hM)
 refine aM (hK2 _ _ ?_);clear hK2;refine aF fun K5 bT=>?_;refine bg ?_;refine aV ?_;refine lq hM (fun jc=>[(0,eS aG l0),(1,eI i0),(5,eI (jc:Int))]) (fun jc=>[iL l0 aG]) sS rI ?_;clear hM;rintro aN jc hM fQ hL1;dsimp only[Q9] at hM ⊢;refine aF fun K7 eU=>?_;refine aJ ?_;refine om ?_;refine oe bK ?_;refine on ?_;refine cc rfl hM (fun hc6 hM=>?_) (fun hc6 hM=>?_)
 ·refine aM (eU _ _ ?_);clear eU;refine aF fun K9 dY=>?_;refine aV ?_;refine aF fun sK gy=>?_;refine fE _ (List.Sublist.refl _) ?_;refine aj 0 rfl aH ?_;refine aj 1 rfl aH ?_;obtain⟨x7,wU,hM⟩:=bind_some hM;refine aj 2 rfl (aQ (xs:=l0) 1 (kG l0 aG) (iS wU)) ?_;refine aj 3 rfl (bE (i:=(jc:Int)) (xs:=l0) (y:=x7) 0 (kG l0 aG) (fun _=>wU)) ?_;refine aj 4 rfl aH ?_;refine aj 5 rfl aH ?_;obtain⟨x9,mG,hM⟩:=bind_some hM;refine aj 6 rfl (aQ (xs:=l0) 1 (kG l0 aG) (iS mG)) ?_;refine aj 7 rfl (bE (i:=i0) (xs:=l0) (y:=x9) 0 (kG l0 aG) (fun _=>mG)) ?_;refine aj 8 rfl Lf ?_;refine dK (gy _ _ ?_);clear gy;refine cc rfl hM (fun uS hM=>?_) (fun uS hM=>?_)
  · refine bg ?_;exact aP (bD hM)
  refine aM (dY _ _ ?_);clear dY;refine aT ?_;refine om ?_;refine oP hM fun hM=>?_;refine oa ?_;refine aU (hL1 hM sS rI)
 refine bX (bT _ _ ?_);clear bT;dsimp only[afw] at hM;refine bg ?_;exact aP (bD hM)
def Aa(n0:Int)(nS:Int)(hi0:Int):Option Bool:=
 some (decide (nS≤n0)&&decide (n0≤hi0))
theorem EY(S:bF)(w:World)(n0:Int)(nS:Int)(hi0:Int)(y:Bool)(hM:Aa n0 nS hi0=some y)(hS:sB S w):
  Calls Tryz.prog 83 #[vI n0,vI nS,vI hi0] w (dw w (.bool y)):=by
 refine bW (args:=[_,_,_]) Tryz.func83 rfl ((pre_nil hS).start) rfl ?_;unfold Aa at hM;refine bg ?_;refine aJ ?_;refine om ?_;refine oe ig ?_;refine om ?_;refine au rfl aH ?_;refine au rfl aH ?_;refine au rfl kD ?_;refine oe dB ?_;refine aL ?_;exact aP (bD hM)
def M6(k0:Link)(x0:qp):Option Bool:=
 some ((decide (k0.A=x0.tZ)&&decide (k0.dQ=x0.end_))||(decide (k0.B=x0.tZ)&&decide (k0.dV=x0.end_)))
theorem aaC(S:bF)(w:World)(k0:Link)(x0:qp)(y:Bool)(hM:M6 k0 x0=some y)(hS:sB S w):
  Calls Tryz.prog 108 #[.agg (ahh k0),.agg (abF x0)] w (dw w (.bool y)):=by
 refine bW (args:=[_,_]) Tryz.func108 rfl ((pre_nil hS).start) rfl ?_;unfold M6 at hM;refine sr ?_;refine oB (uF k0) fun b1=>?_;refine oB (Qs x0) fun b2=>?_;refine aL ?_;refine sr ?_;refine oe (ay 0) ?_;refine oe (aD (b:=b1)) ?_;refine oe (ay 0) ?_;refine oe (aD (b:=b2)) ?_;refine oe fI ?_;refine om ?_;refine au rfl (ay 1) ?_;refine au rfl (aD (b:=b1)) ?_;refine au rfl (ay 1) ?_;refine au rfl (aD (b:=b2)) ?_;refine au rfl fI ?_;refine oe dB ?_;refine om ?_;refine au rfl (ay 2) ?_;refine au rfl (aD (b:=b1)) ?_;refine au rfl (ay 0) ?_;refine au rfl (aD (b:=b2)) ?_;refine au rfl fI ?_;refine au rfl aH ?_;refine au rfl (ay 3) ?_;refine au rfl (aD (b:=b1)) ?_;refine au rfl (ay 1) ?_;refine au rfl (aD (b:=b2)) ?_;refine au rfl fI ?_;refine au rfl dB ?_;refine oe bP ?_;refine aL ?_;exact aP (bD hM)
def M4(pF:Nat)(aN:(Int×Int×Int×Int×Int×Int×Int×Nat)→Option Bool):(Int×Int×Int×Int×Int×Int×Int)→Option Bool:=fun (Qp,Qy,Qz,QA,QB,QC,QD)=>
 aX (bA ((pF:Int)+1))<|
 aN (Qp,Qy,Qz,QA,QB,QC,QD,pF+1)
def aaB(DT:Int)(x3:Link)(Hl:Int)(Ho:Int):Unit→Option Bool:=fun _=>
 some (decide (DT=0)||(((decide (DT=1)&&decide (0≤x3.Point))&&decide (Hl=x3.Point))&&decide (Ho≠x3.Pos)))
def Q6(i0:Int)(l0:Layout)(x0:qp)(x3:Link)(aN:(Int×Int×Int×Int×Int×Int×Int×Nat)→Option Bool):(Int×Int×Int×Int×Int×Int×Int×Nat)→Option Bool:=fun (DT,Qu,Qv,Qw,Qx,Hl,Ho,pF)=>
 if decide ((pF:Int)<i0) then
  ((idx l0.Links (pF:Int)).bind fun x9=>
  (M6 x9 x0).bind fun fF=>
  if fF then
   (aX (bA (DT+1))<|
   (idx l0.Links (pF:Int)).bind fun iX=>
   M4 pF aN ((DT+1),iX.A,iX.dQ,iX.B,iX.dV,iX.Point,iX.Pos))
  else
   (M4 pF aN (DT,Qu,Qv,Qw,Qx,Hl,Ho)))
 else
  (aaB DT x3 Hl Ho ())
def M5(l0:Layout)(i0:Int)(x0:qp):Option Bool:=
 (idx l0.Links i0).bind fun x3=>
 iter (Q6 i0 l0 x0 x3) FUEL (0,0,0,0,0,0,0,0)
theorem afu(S:bF)(w:World)(l0:Layout)(aG:ak.R Layout)(i0:Int)(x0:qp)(y:Bool)(hM:M5 l0 i0 x0=some y)(hS:sB S w)(eT:ak.ok S w aG l0):
   Calls Tryz.prog 109 #[.agg (lX l0 aG),vI i0,.agg (abF x0)] w (dw w (.bool y)):=by
 refine bW (args:=[_,_,_]) Tryz.func109 rfl ((pre_nil hS).start |>.ny eT) rfl ?_;unfold M5 at hM;refine sr ?_;refine oB (eD l0 aG) fun b1=>?_;refine oB (Qs x0) fun b2=>?_;refine aL ?_;refine sr ?_;refine oe (ay 3) ?_;refine oe (aD (b:=b1)) ?_;refine om ?_;obtain⟨x3,hx4,hM⟩:=bind_some hM;refine oe (aQ (xs:=l0.Links) 6 (kG l0.Links aG.2.2.2) (iS hx4)) ?_;refine oe (eY (m:=6) (i:=i0) (xs:=l0.Links) (y:=x3) (l:=(uF x3)) 0 (kG l0.Links aG.2.2.2) (fun _=>hx4)) ?_;refine oA rfl fun b5=>?_;refine oS b5 (uF x3) ?_
 refine on ?_;refine sr ?_;refine oe (gD [vI 0,vI 0,vI 0,vI 0,vI 0,vI 0]) ?_;refine oA rfl fun b6=>?_;refine oa ?_;refine oS b6 [vI 0,vI 0,vI 0,vI 0,vI 0,vI 0] ?_;refine on ?_;refine aF fun K4 hK4=>?_;refine bg ?_;refine aV ?_;refine lq hM (fun (DT,Qu,Qv,Qw,Qx,Hl,Ho,pF)=>[(1,eI i0),(3,eP b1),(5,eP b2),(7,eP b5),(8,eI DT),(9,eP b6),(10,eI (pF:Int))]) (fun (DT,Qu,Qv,Qw,Qx,Hl,Ho,pF)=>[iL l0.bB aG.1,iL l0.bN aG.2.1,iL l0.Sections aG.2.2.1,iL l0.Links aG.2.2.2,own b1 27 (eD l0 aG),own b2 186 (Qs x0),own b5 144 (uF x3),own b6 144 [vI Qu,vI Qv,vI Qw,vI Qx,vI Hl,vI Ho]]) sS rI ?_
 clear hM;rintro aN ⟨DT,Qu,Qv,Qw,Qx,Hl,Ho,pF⟩ hM fQ hL1;dsimp only[Q6] at hM ⊢;refine aF fun K6 bU=>?_;refine aJ ?_;refine om ?_;refine oe bK ?_;refine on ?_;refine cc rfl hM (fun lY hM=>?_) (fun lY hM=>?_)
 ·refine aM (bU _ _ ?_);clear bU;refine jm y (k:=M4 pF aN) (fun (Qp,Qy,Qz,QA,QB,QC,QD)=>[(1,eI i0),(3,eP b1),(5,eP b2),(7,eP b5),(8,eI Qp),(9,eP b6),(10,eI (pF:Int))]) (fun (Qp,Qy,Qz,QA,QB,QC,QD)=>[iL l0.bB aG.1,iL l0.bN aG.2.1,iL l0.Sections aG.2.2.1,iL l0.Links aG.2.2.2,own b1 27 (eD l0 aG),own b2 186 (Qs x0),own b5 144 (uF x3),own b6 144 [vI Qy,vI Qz,vI QA,vI QB,vI QC,vI QD]]) ?_ ?_
  · intro zB hJ2;refine aV ?_;refine aF fun K8 fu=>?_;refine fE _ (List.Sublist.refl _) ?_;refine aj 0 rfl (ay 3) ?_;refine aj 1 rfl (aD (b:=b1)) ?_;refine aj 2 rfl aH ?_;obtain⟨x9,mG,hM⟩:=bind_some hM;refine aj 3 rfl (aQ (xs:=l0.Links) 6 (kG l0.Links aG.2.2.2) (iS mG)) ?_;refine aj 4 rfl (eY (m:=6) (i:=(pF:Int)) (xs:=l0.Links) (y:=x9) (l:=(uF x9)) 0 (kG l0.Links aG.2.2.2) (fun _=>mG)) ?_;refine aj 5 rfl (bM (b:=b2)) ?_;obtain⟨fF,yP,hM⟩:=bind_some hM;refine dX 6 rfl (sV (fun hs=>aaC _ _ x9 x0 fF yP (bq hs)) ⟨rI,?_⟩);refine dK (fu _ _ ?_);clear fu;refine cc rfl hM (fun zO hM=>?_) (fun zO hM=>?_)
    ·refine aJ ?_;refine oP hM fun hM=>?_;refine aL ?_;refine aT ?_;refine oe (ay 3) ?_;refine oe (aD (b:=b1)) ?_;refine om ?_;obtain⟨iX,hx16,hM⟩:=bind_some hM;refine oe (aQ (xs:=l0.Links) 6 (kG l0.Links aG.2.2.2) (iS hx16)) ?_;refine oe (eY (m:=6) (i:=(pF:Int)) (xs:=l0.Links) (y:=iX) (l:=(uF iX)) 0 (kG l0.Links aG.2.2.2) (fun _=>hx16)) ?_;refine oS b6 (uF iX) ?_;refine aU (hJ2 hM sS rI)
    refine aM (hJ2 hM sS rI)
  clear hM;rintro⟨Qp,Qy,Qz,QA,QB,QC,QD⟩ hM;dsimp only[M4] at hM ⊢;refine aT ?_;refine om ?_;refine oP hM fun hM=>?_;refine oa ?_;refine aU (hL1 hM sS rI)
 refine bX (hK4 _ _ ?_);clear hK4;dsimp only[aaB] at hM;refine aJ ?_;refine oe fI ?_;refine om ?_;refine au rfl aH ?_;refine au rfl fI ?_;refine au rfl aH ?_;refine au rfl (ay 4) ?_;refine au rfl (aD (b:=b5)) ?_;refine au rfl ig ?_;refine au rfl dB ?_;refine au rfl aH ?_;refine au rfl (ay 4) ?_;refine au rfl (aD (b:=b6)) ?_;refine au rfl (ay 4) ?_;refine au rfl (aD (b:=b5)) ?_;refine au rfl fI ?_;refine au rfl dB ?_;refine au rfl aH ?_;refine au rfl (ay 5) ?_;refine au rfl (aD (b:=b6)) ?_;refine au rfl (ay 5) ?_;refine au rfl (aD (b:=b5)) ?_;refine au rfl gH ?_;refine au rfl dB ?_;refine oe bP ?_;refine aL ?_;exact aP (bD hM)
def aaD(l0:Layout)(i0:Int)(x2:Link):Unit→Option Int:=fun _=>
 (M5 l0 i0 (qp.mk x2.A x2.dQ)).bind fun W9=>
 (dW (!(!W9)) default (M5 l0 i0 (qp.mk x2.B x2.dV))).bind fun IK=>
 if ((!W9)||(!IK)) then
  (some 11)
 else
  (some 0)
def Q7(i0:Int)(l0:Layout)(x2:Link)(aN:Nat→Option Int):Nat→Option Int:=fun pF=>
 if decide ((pF:Int)<i0) then
  ((idx l0.Links (pF:Int)).bind fun x23=>
  (M6 x23 (qp.mk x2.A x2.dQ)).bind fun y25=>
  (dW y25 default (idx l0.Links (pF:Int))).bind fun x27=>
  (dW y25 default (M6 x27 (qp.mk x2.B x2.dV))).bind fun y29=>
  if (y25&&y29) then
   (some 5)
  else
   (aX (bA ((pF:Int)+1))<|
   aN (pF+1)))
 else
  (aaD l0 i0 x2 ())
def Vi(x2:Link)(i0:Int)(l0:Layout):Unit→Option Int:=fun _=>
 if decide ((qp.mk x2.A x2.dQ)=(qp.mk x2.B x2.dV)) then
  (some 1)
 else
  (iter (Q7 i0 l0 x2) FUEL 0)
def Q8(l0:Layout)(i0:Int):Option Int:=
 (idx l0.Links i0).bind fun x2=>
 aX (bA ((l0.Sections.length:Int)-1))<|
 (Aa x2.A 0 ((l0.Sections.length:Int)-1)).bind fun y6=>
 aX (!(!(!y6))||bA ((l0.Sections.length:Int)-1))<|
 (dW (!(!y6)) default (Aa x2.B 0 ((l0.Sections.length:Int)-1))).bind fun y9=>
 (dW (!((!y6)||(!y9))) default (Aa x2.dQ 0 1)).bind fun fF=>
 (dW (!(((!y6)||(!y9))||(!fF))) default (Aa x2.dV 0 1)).bind fun y13=>
 aX (!(!((((!y6)||(!y9))||(!fF))||(!y13)))||bA ((l0.bN.length:Int)-1))<|
 (dW (!((((!y6)||(!y9))||(!fF))||(!y13))) default (Aa x2.Point (-1) ((l0.bN.length:Int)-1))).bind fun qo=>
 (dW (!(((((!y6)||(!y9))||(!fF))||(!y13))||(!qo))) default (Aa x2.Pos 0 1)).bind fun jE=>
 if (((((((!y6)||(!y9))||(!fF))||(!y13))||(!qo))||(!jE))||(decide (x2.Point<0)&&decide (x2.Pos≠0))) then
  (some 4)
 else
  (Vi x2 i0 l0 ())
theorem amx(S:bF)(w:World)(l0:Layout)(aG:ak.R Layout)(i0:Int)(y:Int)(hM:Q8 l0 i0=some y)(hS:sB S w)(eT:ak.ok S w aG l0):
   Calls Tryz.prog 84 #[.agg (lX l0 aG),vI i0] w (dw w (vI y)):=by
 refine bW (args:=[_,_]) Tryz.func84 rfl ((pre_nil hS).start |>.ny eT) rfl ?_;unfold Q8 at hM;refine sr ?_;refine oB (eD l0 aG) fun b1=>?_;refine aL ?_;refine sr ?_;refine oe (ay 3) ?_;refine oe (aD (b:=b1)) ?_;refine om ?_;obtain⟨x2,hx3,hM⟩:=bind_some hM;refine oe (aQ (xs:=l0.Links) 6 (kG l0.Links aG.2.2.2) (iS hx3)) ?_;refine oe (eY (m:=6) (i:=i0) (xs:=l0.Links) (y:=x2) (l:=(uF x2)) 0 (kG l0.Links aG.2.2.2) (fun _=>hx3)) ?_;refine oA rfl fun b4=>?_;refine oS b4 (uF x2) ?_
 refine on ?_;refine sr ?_;refine oe (ay 2) ?_;refine oe (aD (b:=b1)) ?_;refine oe bf ?_;refine aL ?_;refine aF fun K4 hK4=>?_;refine sr ?_;refine oe (ay 0) ?_;refine oe (aD (b:=b4)) ?_;refine om ?_;refine oN hM fun hM=>?_;obtain⟨y6,rZ,hM⟩:=bind_some hM;refine cv (fun hs=>EY _ _ x2.A 0 ((l0.Sections.length:Int)-1) y6 rZ (bq hs)) ?_;refine oe dN ?_;refine om ?_;refine au rfl (ay 2) ?_;refine au rfl (aD (b:=b4)) ?_;refine au rfl aH ?_;obtain⟨O7,hM⟩:=bQ hM;refine au rfl (mQ (hr:=fun hg=>dI (tL O7 hg))) ?_;obtain⟨y9,yO,hM⟩:=bind_some hM;refine cg rfl (fun hg hs=>EY _ _ x2.B 0 ((l0.Sections.length:Int)-1) y9 (dF yO hg) (bq hs)) ?_;refine au rfl dN ?_;refine oe bP ?_;refine om ?_;refine au rfl (ay 1) ?_;refine au rfl (aD (b:=b4)) ?_;obtain⟨fF,yP,hM⟩:=bind_some hM;refine cg rfl (fun hg hs=>EY _ _ x2.dQ 0 1 fF (dF yP hg) (bq hs)) ?_;refine au rfl dN ?_;refine oe bP ?_;refine om ?_
 refine au rfl (ay 3) ?_;refine au rfl (aD (b:=b4)) ?_;obtain⟨y13,FU,hM⟩:=bind_some hM;refine cg rfl (fun hg hs=>EY _ _ x2.dV 0 1 y13 (dF FU hg) (bq hs)) ?_;refine au rfl dN ?_;refine oe bP ?_;refine om ?_;refine au rfl (ay 4) ?_;refine au rfl (aD (b:=b4)) ?_;refine au rfl (ay 1) ?_;refine au rfl (aD (b:=b1)) ?_;refine au rfl bf ?_;obtain⟨OZ,hM⟩:=bQ hM;refine au rfl (mQ (hr:=fun hg=>dI (tL OZ hg))) ?_;obtain⟨qo,FV,hM⟩:=bind_some hM;refine cg rfl (fun hg hs=>EY _ _ x2.Point (-1) ((l0.bN.length:Int)-1) qo (dF FV hg) (bq hs)) ?_;refine au rfl dN ?_;refine oe bP ?_;refine om ?_;refine au rfl (ay 5) ?_;refine au rfl (aD (b:=b4)) ?_;obtain⟨jE,yQ,hM⟩:=bind_some hM;refine cg rfl (fun hg hs=>EY _ _ x2.Pos 0 1 jE (dF yQ hg) (bq hs)) ?_;refine au rfl dN ?_;refine oe bP ?_;refine om ?_;refine au rfl (ay 4) ?_;refine au rfl (aD (b:=b4)) ?_;refine au rfl bK ?_;refine au rfl aH ?_;refine au rfl (ay 5) ?_;refine au rfl (aD (b:=b4)) ?_;refine au rfl gH ?_;refine au rfl dB ?_;refine oe bP ?_;refine on ?_
 refine cc rfl hM (fun Az hM=>?_) (fun Az hM=>?_)
 ·refine bg ?_;exact aP (bD hM)
 refine aM (hK4 _ _ ?_);clear hK4;refine jn (Nat×Nat) y (k:=Vi x2 i0 l0) (fun _ (Fw,Fx)=>[(1,eI i0),(2,eP b1),(7,eP Fw),(8,eP Fx)]) (fun _ (Fw,Fx)=>[iL l0.bB aG.1,iL l0.bN aG.2.1,iL l0.Sections aG.2.2.1,iL l0.Links aG.2.2.2,own b1 27 (eD l0 aG),own Fw 186 [vI x2.A,vI x2.dQ],own Fx 186 [vI x2.B,vI x2.dV]]) ?_ ?_
 ·intro Fj iR;refine fE _ (List.Sublist.refl _) ?_;refine aj 0 rfl (ay 0) ?_;refine aj 1 rfl (aD (b:=b4)) ?_;refine aj 2 rfl (ay 1) ?_;refine aj 3 rfl (aD (b:=b4)) ?_;refine aj 4 rfl (gD [vI x2.A,vI x2.dQ]) ?_;refine aj 5 rfl (ay 2) ?_;refine aj 6 rfl (aD (b:=b4)) ?_;refine aj 7 rfl (ay 3) ?_;refine aj 8 rfl (aD (b:=b4)) ?_;refine aj 9 rfl (gD [vI x2.B,vI x2.dV]) ?_;refine mP 10 11 (⟨_,rfl,rfl,iP rfl (k:=fun Dh=>⟨rI,?_⟩)⟩) (⟨_,rfl,rfl,iP rfl (k:=fun IY=>⟨rI,?_⟩)⟩)
  · refine aA 11 rfl rfl fun IZ=>?_;refine aS 12 rfl Dh [vI x2.A,vI x2.dQ] ?_;refine aS 13 rfl IZ [vI x2.B,vI x2.dV] ?_;refine dK (iR (Dh,IZ) hM sS rI)
  refine aA 10 rfl rfl fun Fu=>?_;refine aS 12 rfl Fu [vI x2.A,vI x2.dQ] ?_;refine aS 13 rfl IY [vI x2.B,vI x2.dV] ?_;refine dK (iR (Fu,IY) hM sS rI)
 clear hM;rintro⟨⟩ ⟨Fw,Fx⟩ hM;dsimp only[Vi] at hM ⊢;refine aF fun K7 eU=>?_;refine sr ?_;refine oe (bM (b:=Fw)) ?_;refine oe (bM (b:=Fx)) ?_;refine oe (La [.int .i64,.int .i64] (decide ((qp.mk x2.A x2.dQ)=(qp.mk x2.B x2.dV))) (ahd _ _)) ?_;refine on ?_;refine cc rfl hM (fun hc21 hM=>?_) (fun hc21 hM=>?_)
 ·refine bg ?_;exact aP (bD hM)
 refine aM (eU _ _ ?_);clear eU;refine aF fun sK gy=>?_;refine bg ?_;refine aV ?_;refine lq hM (fun pF=>[(1,eI i0),(2,eP b1),(7,eP Fw),(8,eP Fx),(9,eI (pF:Int))]) (fun pF=>[iL l0.bB aG.1,iL l0.bN aG.2.1,iL l0.Sections aG.2.2.1,iL l0.Links aG.2.2.2,own b1 27 (eD l0 aG),own Fw 186 [vI x2.A,vI x2.dQ],own Fx 186 [vI x2.B,vI x2.dV]]) sS rI ?_;clear hM;rintro aN pF hM fQ hL1;dsimp only[Q7] at hM ⊢;refine aF fun vN iI=>?_;refine aJ ?_;refine om ?_;refine oe bK ?_;refine on ?_;refine cc rfl hM (fun hc22 hM=>?_) (fun hc22 hM=>?_)
 ·refine aM (iI _ _ ?_);clear iI;refine aF fun zA kg=>?_;refine aV ?_;refine aF fun yE jN=>?_;refine fE _ (List.Sublist.refl _) ?_;refine aj 0 rfl (ay 3) ?_;refine aj 1 rfl (aD (b:=b1)) ?_;refine aj 2 rfl aH ?_;obtain⟨x23,hx24,hM⟩:=bind_some hM;refine aj 3 rfl (aQ (xs:=l0.Links) 6 (kG l0.Links aG.2.2.2) (iS hx24)) ?_;refine aj 4 rfl (eY (m:=6) (i:=(pF:Int)) (xs:=l0.Links) (y:=x23) (l:=(uF x23)) 0 (kG l0.Links aG.2.2.2) (fun _=>hx24)) ?_;refine aj 5 rfl (bM (b:=Fw)) ?_;obtain⟨y25,FX,hM⟩:=bind_some hM;refine dX 6 rfl (sV (fun hs=>aaC _ _ x23 (qp.mk x2.A x2.dQ) y25 FX (bq hs)) ⟨rI,?_⟩);refine aj 7 rfl aH ?_;refine bO 8 rfl rfl (ay 3) ?_;refine bO 9 rfl rfl (aD (b:=b1)) ?_;refine bO 10 rfl rfl aH ?_;obtain⟨x27,hx28,hM⟩:=bind_some hM;refine bO 11 rfl rfl (aQ (xs:=l0.Links) 6 (kG l0.Links aG.2.2.2) (fun hg=>let h:=jG (dF hx28 hg);⟨h.1,h.2.1⟩)) ?_;refine bO 12 rfl rfl (eY (m:=6) (i:=(pF:Int)) (xs:=l0.Links) (y:=x27) (l:=(uF x27)) 0 (kG l0.Links aG.2.2.2) (fun hg=>dF hx28 hg)) ?_
  refine bO 13 rfl rfl (bM (b:=Fx)) ?_;obtain⟨y29,Jp,hM⟩:=bind_some hM;refine GJ 14 rfl rfl (fun hg w hm=>let ⟨S,hs⟩:=hm;aaC _ w x27 (qp.mk x2.B x2.dV) y29 (dF Jp hg) (bq hs)) ?_;refine aj 15 rfl dB ?_;refine dK (jN _ _ ?_);clear jN;refine cc rfl hM (fun hc31 hM=>?_) (fun hc31 hM=>?_)
  · refine bg ?_;exact aP (bD hM)
  refine aM (kg _ _ ?_);clear kg;refine aT ?_;refine om ?_;refine oP hM fun hM=>?_;refine oa ?_;refine aU (hL1 hM sS rI)
 refine bX (gy _ _ ?_);clear gy;dsimp only[aaD] at hM;refine aF fun Fh oG=>?_;refine sr ?_;refine oe (bM (b:=b1)) ?_;refine om ?_;refine oe (bM (b:=Fw)) ?_;obtain⟨W9,hy34,hM⟩:=bind_some hM;refine cv (fun hs=>afu _ _ l0 aG i0 (qp.mk x2.A x2.dQ) W9 hy34 (bq hs) ⟨(kM hs),(kM hs),(kM hs),(kM hs)⟩) ?_;refine oe dN ?_;refine om ?_;refine au rfl (bM (b:=b1)) ?_;refine au rfl aH ?_;refine au rfl (bM (b:=Fx)) ?_;obtain⟨IK,Uo,hM⟩:=bind_some hM;refine cg rfl (fun hg hs=>afu _ _ l0 aG i0 (qp.mk x2.B x2.dV) IK (dF Uo hg) (bq hs) ⟨(kM hs),(kM hs),(kM hs),(kM hs)⟩) ?_;refine au rfl dN ?_;refine oe bP ?_;refine on ?_;refine cc rfl hM (fun ajP hM=>?_) (fun ajP hM=>?_)
 ·refine bg ?_;exact aP (bD hM)
 refine aM (oG _ _ ?_);clear oG;refine bg ?_;exact aP (bD hM)
def afq:Unit→Option Int:=fun _=>
 some 0
def QX(l0:Layout)(nG:Nat→Option Int):Nat→Option Int:=fun l7=>
 if decide ((l7:Int)<(l0.Links.length:Int)) then
  ((Q8 l0 (l7:Int)).bind fun Gw=>
  if decide (Gw≠0) then
   (some Gw)
  else
   (aX (bA ((l7:Int)+1))<|
   nG (l7+1)))
 else
  (afq ())
def Vg(l0:Layout):Unit→Option Int:=fun _=>
 iter (QX l0) FUEL 0
def QW(l0:Layout)(bZ:(List Str))(gY:Nat→Option Int):Nat→Option Int:=fun iU=>
 if decide ((iU:Int)<(l0.Sections.length:Int)) then
  ((H9 bZ (iU:Int)).bind fun jE=>
  if decide (jE≠0) then
   (some jE)
  else
   ((idx l0.Sections (iU:Int)).bind fun x21=>
   (Aa x21.Length 1 400).bind fun y24=>
   (dW (!(!y24)) default (Aa x21.Limit 1000 100000)).bind fun Aj=>
   (dW (!((!y24)||(!Aj))) default (Aa x21.kr (-40) 40)).bind fun y28=>
   aX (!(!(((!y24)||(!Aj))||(!y28)))||bA ((l0.bB.length:Int)-1))<|
   (dW (!(((!y24)||(!Aj))||(!y28))) default (Aa x21.nN (-1) ((l0.bB.length:Int)-1))).bind fun y31=>
   if ((((!y24)||(!Aj))||(!y28))||(!y31)) then
    (some 4)
   else
    (aX (bA ((iU:Int)+1))<|
    gY (iU+1))))
 else
  (Vg l0 ())
def QY(l0:Layout):Unit→Option Int:=fun _=>
 (Rb l0).bind fun bZ=>
 iter (QW l0 bZ) FUEL 0
def aay(l0:Layout)(cu:Nat→Option Int):Nat→Option Int:=fun lV=>
 if decide ((lV:Int)<(l0.bN.length:Int)) then
  ((H9 l0.bN (lV:Int)).bind fun iG=>
  if decide (iG≠0) then
   (some iG)
  else
   (aX (bA ((lV:Int)+1))<|
   cu (lV+1)))
 else
  (QY l0 ())
def Vf(l0:Layout):Unit→Option Int:=fun _=>
 iter (aay l0) FUEL 0
def aax(l0:Layout)(aN:Nat→Option Int):Nat→Option Int:=fun bI=>
 if decide ((bI:Int)<(l0.bB.length:Int)) then
  ((H9 l0.bB (bI:Int)).bind fun y5=>
  if decide (y5≠0) then
   (some y5)
  else
   (aX (bA ((bI:Int)+1))<|
   aN (bI+1)))
 else
  (Vf l0 ())
def MX(l0:Layout):Option Int:=
 if (((decide (24<(l0.bB.length:Int))||decide (48<(l0.bN.length:Int)))||decide (96<(l0.Sections.length:Int)))||decide (192<(l0.Links.length:Int))) then
  (some 7)
 else
  (if decide ((l0.Sections.length:Int)=0) then
   (some 1)
  else
   (iter (aax l0) FUEL 0))
theorem afr(S:bF)(w:World)(l0:Layout)(aG:ak.R Layout)(y:Int)(hM:MX l0=some y)(hS:sB S w)(eT:ak.ok S w aG l0):
   Calls Tryz.prog 44 #[.agg (lX l0 aG)] w (dw w (vI y)):=by
 refine bW (args:=[_]) Tryz.func44 rfl ((pre_nil hS).start |>.ny eT) rfl ?_;unfold MX at hM;refine sr ?_;refine oB (eD l0 aG) fun b1=>?_;refine aL ?_;refine aF fun K2 hK2=>?_;refine sr ?_;refine oe (ay 0) ?_;refine oe (aD (b:=b1)) ?_;refine oe bf ?_;refine oe eO ?_;refine om ?_;refine au rfl (ay 1) ?_;refine au rfl (aD (b:=b1)) ?_;refine au rfl bf ?_;refine au rfl eO ?_;refine oe bP ?_;refine om ?_;refine au rfl (ay 2) ?_;refine au rfl (aD (b:=b1)) ?_;refine au rfl bf ?_;refine au rfl eO ?_;refine oe bP ?_;refine om ?_;refine au rfl (ay 3) ?_;refine au rfl (aD (b:=b1)) ?_;refine au rfl bf ?_;refine au rfl eO ?_;refine oe bP ?_;refine on ?_
 refine cc rfl hM (fun hc2 hM=>?_) (fun hc2 hM=>?_)
 ·refine bg ?_;exact aP (bD hM)
 refine aM (hK2 _ _ ?_);clear hK2;refine aF fun K5 bT=>?_;refine sr ?_;refine oe (ay 2) ?_;refine oe (aD (b:=b1)) ?_;refine oe bf ?_;refine oe fI ?_;refine on ?_;refine cc rfl hM (fun hc3 hM=>?_) (fun hc3 hM=>?_)
 ·refine bg ?_;exact aP (bD hM)
 refine aM (bT _ _ ?_);clear bT;refine aF fun K8 fu=>?_;refine bg ?_;refine aV ?_;refine lq hM (fun bI=>[(1,eP b1),(3,eI (bI:Int))]) (fun bI=>[iL l0.bB aG.1,iL l0.bN aG.2.1,iL l0.Sections aG.2.2.1,iL l0.Links aG.2.2.2,own b1 27 (eD l0 aG)]) sS rI ?_;clear hM;rintro aN bI hM fQ hL1;dsimp only[aax] at hM ⊢;refine aF fun sK gy=>?_;refine aJ ?_;refine oe (ay 0) ?_;refine oe (aD (b:=b1)) ?_;refine oe bf ?_;refine oe bK ?_;refine on ?_;refine cc rfl hM (fun hc4 hM=>?_) (fun hc4 hM=>?_)
 ·refine aM (gy _ _ ?_);clear gy;refine aF fun vN iI=>?_;refine aV ?_;refine sr ?_;refine oe (ay 0) ?_;refine oe (aD (b:=b1)) ?_;refine om ?_;obtain⟨y5,yS,hM⟩:=bind_some hM;refine cv (fun hs=>aaE _ _ l0.bB aG.1 (bI:Int) y5 yS (bq hs) (kM hs)) ?_;refine aL ?_;refine aJ ?_;refine oe gH ?_;refine on ?_;refine cc rfl hM (fun lY hM=>?_) (fun lY hM=>?_)
  · refine aJ ?_;refine aL ?_;exact aP (bD hM)
  refine aM (iI _ _ ?_);clear iI;refine aT ?_;refine om ?_;refine oP hM fun hM=>?_;refine oa ?_;refine aU (hL1 hM sS rI)
 refine bX (fu _ _ ?_);clear fu;dsimp only[Vf] at hM;refine aF fun yF jC=>?_;refine bg ?_;refine aV ?_;refine lq hM (fun lV=>[(1,eP b1),(5,eI (lV:Int))]) (fun lV=>[iL l0.bB aG.1,iL l0.bN aG.2.1,iL l0.Sections aG.2.2.1,iL l0.Links aG.2.2.2,own b1 27 (eD l0 aG)]) sS rI ?_;clear hM;rintro cu lV hM qM hL2;dsimp only[aay] at hM ⊢;refine aF fun El nH=>?_;refine aJ ?_;refine oe (ay 1) ?_;refine oe (aD (b:=b1)) ?_;refine oe bf ?_;refine oe bK ?_;refine on ?_;refine cc rfl hM (fun rY hM=>?_) (fun rY hM=>?_)
 ·refine aM (nH _ _ ?_);clear nH;refine aF fun CY mF=>?_;refine aV ?_;refine sr ?_;refine oe (ay 1) ?_;refine oe (aD (b:=b1)) ?_;refine om ?_;obtain⟨iG,tN,hM⟩:=bind_some hM;refine cv (fun hs=>aaE _ _ l0.bN aG.2.1 (lV:Int) iG tN (bq hs) (kM hs)) ?_;refine aL ?_;refine aJ ?_;refine oe gH ?_;refine on ?_;refine cc rfl hM (fun qQ hM=>?_) (fun qQ hM=>?_)
  · refine aJ ?_;refine aL ?_;exact aP (bD hM)
  refine aM (mF _ _ ?_);clear mF;refine aT ?_;refine om ?_;refine oP hM fun hM=>?_;refine oa ?_;refine aU (hL2 hM sS rI)
 refine bX (jC _ _ ?_);clear jC;dsimp only[QY] at hM;refine sr ?_;refine oe (bM (b:=b1)) ?_;obtain⟨bZ,pX,hM⟩:=bind_some hM;refine aY (fP jL.nil (fun S w hs hP=>amy _ w l0 aG bZ pX (bq hs) ⟨(kM hs),(kM hs),(kM hs),(kM hs)⟩) fO (fun r16=>?_));dsimp only[cA,nA];refine aL ?_;refine aF fun Xi Dm=>?_;refine bg ?_;refine aV ?_;refine lq hM (fun iU=>[(1,eP b1),(7,eS r16 bZ),(8,eI (iU:Int))]) (fun iU=>[iL l0.bB aG.1,iL l0.bN aG.2.1,iL l0.Sections aG.2.2.1,iL l0.Links aG.2.2.2,own b1 27 (eD l0 aG),ah 9 r16 bZ]) sS rI ?_;clear hM;rintro gY iU hM zC hL3;dsimp only[QW] at hM ⊢;refine aF fun N7 wR=>?_;refine aJ ?_;refine oe (ay 2) ?_;refine oe (aD (b:=b1)) ?_;refine oe bf ?_
 refine oe bK ?_;refine on ?_;refine cc rfl hM (fun hc17 hM=>?_) (fun hc17 hM=>?_)
 ·refine aM (wR _ _ ?_);clear wR;refine aF fun IQ rX=>?_;refine aV ?_;refine aF fun KD uy=>?_;refine aJ ?_;refine om ?_;obtain⟨jE,yQ,hM⟩:=bind_some hM;refine cv (fun hs=>aaE _ _ bZ r16 (iU:Int) jE yQ (bq hs) (kT hs)) ?_;refine aL ?_;refine aJ ?_;refine oe gH ?_;refine on ?_;refine cc rfl hM (fun Az hM=>?_) (fun Az hM=>?_)
  · refine aJ ?_;refine aL ?_;exact aP (bD hM)
  refine aM (uy _ _ ?_);clear uy;refine sr ?_;refine oe (ay 2) ?_;refine oe (aD (b:=b1)) ?_;refine om ?_;obtain⟨x21,vT,hM⟩:=bind_some hM;refine oe (aQ (xs:=l0.Sections) 5 (kG l0.Sections aG.2.2.1) (iS vT)) ?_;refine oe (eY (m:=5) (i:=(iU:Int)) (xs:=l0.Sections) (y:=x21) (l:=(Bc x21)) 0 (kG l0.Sections aG.2.2.1) (fun _=>vT)) ?_;refine oA rfl fun Oe=>?_;refine oS Oe (Bc x21) ?_;refine on ?_;refine sr ?_;refine oe (ay 1) ?_;refine oe (aD (b:=Oe)) ?_;obtain⟨y24,hy25,hM⟩:=bind_some hM;refine cv (fun hs=>EY _ _ x21.Length 1 400 y24 hy25 (bq hs)) ?_;refine oe dN ?_;refine om ?_;refine au rfl (ay 2) ?_;refine au rfl (aD (b:=Oe)) ?_;obtain⟨Aj,hy27,hM⟩:=bind_some hM;refine cg rfl (fun hg hs=>EY _ _ x21.Limit 1000 100000 Aj (dF hy27 hg) (bq hs)) ?_;refine au rfl dN ?_;refine oe bP ?_
  refine om ?_;refine au rfl (ay 3) ?_;refine au rfl (aD (b:=Oe)) ?_;obtain⟨y28,hy29,hM⟩:=bind_some hM;refine cg rfl (fun hg hs=>EY _ _ x21.kr (-40) 40 y28 (dF hy29 hg) (bq hs)) ?_;refine au rfl dN ?_;refine oe bP ?_;refine om ?_;refine au rfl (ay 4) ?_;refine au rfl (aD (b:=Oe)) ?_;refine au rfl (ay 0) ?_;refine au rfl (aD (b:=b1)) ?_;refine au rfl bf ?_;obtain⟨Yq,hM⟩:=bQ hM;refine au rfl (mQ (hr:=fun hg=>dI (tL Yq hg))) ?_;obtain⟨y31,hy32,hM⟩:=bind_some hM;refine cg rfl (fun hg hs=>EY _ _ x21.nN (-1) ((l0.bB.length:Int)-1) y31 (dF hy32 hg) (bq hs)) ?_;refine au rfl dN ?_;refine oe bP ?_;refine on ?_;refine cc rfl hM (fun FM hM=>?_) (fun FM hM=>?_)
  · refine bg ?_;exact aP (bD hM)
  refine aM (rX _ _ ?_);clear rX;refine aT ?_;refine om ?_;refine oP hM fun hM=>?_;refine oa ?_;refine aU (hL3 hM sS rI)
 refine bX (Dm _ _ ?_);clear Dm;dsimp only[Vg] at hM;refine aF fun Xk Dp=>?_;refine bg ?_;refine aV ?_;refine lq hM (fun l7=>[(1,eP b1),(11,eI (l7:Int))]) (fun l7=>[iL l0.bB aG.1,iL l0.bN aG.2.1,iL l0.Sections aG.2.2.1,iL l0.Links aG.2.2.2,own b1 27 (eD l0 aG)]) sS rI ?_;clear hM;rintro nG l7 hM KF hL4;dsimp only[QX] at hM ⊢;refine aF fun Xl Dq=>?_;refine aJ ?_;refine oe (ay 3) ?_;refine oe (aD (b:=b1)) ?_;refine oe bf ?_;refine oe bK ?_;refine on ?_;refine cc rfl hM (fun YL hM=>?_) (fun YL hM=>?_)
 ·refine aM (Dq _ _ ?_);clear Dq;refine aF fun K41 adR=>?_;refine aV ?_;refine sr ?_;refine oe (bM (b:=b1)) ?_;refine om ?_;obtain⟨Gw,Zq,hM⟩:=bind_some hM;refine cv (fun hs=>amx _ _ l0 aG (l7:Int) Gw Zq (bq hs) ⟨(kM hs),(kM hs),(kM hs),(kM hs)⟩) ?_;refine aL ?_;refine aJ ?_;refine oe gH ?_;refine on ?_;refine cc rfl hM (fun hc38 hM=>?_) (fun hc38 hM=>?_)
  · refine aJ ?_;refine aL ?_;exact aP (bD hM)
  refine aM (adR _ _ ?_);clear adR;refine aT ?_;refine om ?_;refine oP hM fun hM=>?_;refine oa ?_;refine aU (hL4 hM sS rI)
 refine bX (Dp _ _ ?_);clear Dp;dsimp only[afq] at hM;refine bg ?_;exact aP (bD hM)
end Go.Proofs.YtcalibhfgdncaaaGreat

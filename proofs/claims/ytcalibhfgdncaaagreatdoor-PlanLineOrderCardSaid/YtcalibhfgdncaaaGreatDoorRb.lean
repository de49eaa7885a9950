/- Functions: models, proved of the code. -/
import Derived.Test.YtcalibhfgdncaaaGreatDoorOf
import Derived.Test.YtcalibhfgdncaaaGreatDoorR0
namespace Go.Proofs.YtcalibhfgdncaaaGreatDoor
open Go.Dc Go.RowKit
attribute [local irreducible] CW OW AW AZ Ev
set_option maxHeartbeats 0
set_option maxRecDepth 10000
set_option linter.all false
def Qb(c0:Int):Option Bool:=
 some ((decide (97≤c0)&&decide (c0≤122))||(decide (65≤c0)&&decide (c0≤90)))
theorem ajR(S:aW)(w:World)(c0:Int)(y:Bool)(hM:Qb c0=some y)(hS:sB S w):
  Calls Tryz.prog 165 #[.int .u8 c0] w (bM w (.bool y)):=by
 refine bF (args:=[_]) Tryz.func165 rfl ((pre_nil hS).start) rfl ?_;unfold Qb at hM;refine go ?_;exact aF (aZ hM)
def ajL:Unit→Option Bool:=fun _=>
 some true
def Vn(s0:Str)(aK:Nat→Option Bool):Nat→Option Bool:=fun aH=>
 if decide ((aH:Int)<(s0.l.length:Int)) then
  ((kD s0 (aH:Int)).bind fun c7=>
  (Qb c7).bind fun y9=>
  (dH (!y9) 0 (kD s0 (aH:Int))).bind fun c11=>
  (dH (!y9) default (MN c11)).bind fun y13=>
  (dH ((!y9)&&(!y13)) 0 (kD s0 (aH:Int))).bind fun c15=>
  if (((!y9)&&(!y13))&&decide (c15≠95)) then
   (some false)
  else
   (aO (aX ((aH:Int)+1))<|
   aK (aH+1)))
 else
  (ajL ())
def MK(s0:Str):Option Bool:=
 (dH (!(decide ((s0.l.length:Int)<1)||decide (12<(s0.l.length:Int)))) 0 (kD s0 0)).bind fun c1=>
 (dH (!(decide ((s0.l.length:Int)<1)||decide (12<(s0.l.length:Int)))) default (Qb c1)).bind fun y3=>
 if ((decide ((s0.l.length:Int)<1)||decide (12<(s0.l.length:Int)))||(!y3)) then
  (some false)
 else
  (iter (Vn s0) FUEL 1)
theorem aeQ(S:aW)(w:World)(s0:Str)(y:Bool)(hM:MK s0=some y)(hS:sB S w):
   Calls Tryz.prog 117 #[.string s0.ba] w (bM w (.bool y)):=by
 refine bF (args:=[_]) Tryz.func117 rfl ((pre_nil hS).start) rfl ?_;unfold MK at hM;refine aJ ?_;refine au fun K2 hK2=>?_;refine go ?_;obtain⟨c1,SI,hM⟩:=bind_some hM;refine bY rfl (pV (cu SI)) ?_;obtain⟨y3,hy4,hM⟩:=bind_some hM;refine cg rfl (fun hg hs=>ajR _ _ c1 y3 (cu hy4 hg) (aM hs)) ?_;refine bY rfl iC ?_;refine oe rT ?_;refine oc hM (fun iH hM=>?_) (fun iH hM=>?_)
 ·refine aJ ?_;exact aF (aZ hM)
 refine cs hK2 ?_;refine au fun K5 dx=>?_;refine aJ ?_;refine bI ?_;refine lk hM [0] (fun aH=>[(3,eI (aH:Int))]) [] (fun aH=>[]) ?_;clear hM;rintro aK aH hM eO hL1;dsimp only[Vn,cA,nA] at hM ⊢;refine au fun K7 gu=>?_;refine go ?_;refine co hM (fun hc6 hM=>?_) (fun hc6 hM=>?_)
 ·refine cs gu ?_;refine au fun K9 fH=>?_;refine bI ?_;refine aR ?_;refine om ?_;obtain⟨c7,apr,hM⟩:=bind_some hM;refine oe (pV (fun _=>apr)) ?_;obtain⟨y9,DL,hM⟩:=bind_some hM;refine cv (fun hs=>ajR _ _ c7 y9 DL (aM hs)) ?_;refine go ?_;obtain⟨c11,SH,hM⟩:=bind_some hM;refine bY rfl (pV (cu SH)) ?_;obtain⟨y13,qK,hM⟩:=bind_some hM;refine cg rfl (fun hg hs=>ajP _ _ c11 y13 (cu qK hg) (aM hs)) ?_;refine go ?_;obtain⟨c15,apl,hM⟩:=bind_some hM;refine bY rfl (pV (cu apl)) ?_;refine go ?_;refine co hM (fun hc17 hM=>?_) (fun hc17 hM=>?_)
  · refine aJ ?_;exact aF (aZ hM)
  refine cs fH ?_;refine bg ?_;refine om ?_;refine oP hM fun hM=>?_;refine oa ?_;refine bq (hL1 hM sS rI)
 refine cx dx ?_;dsimp only[ajL] at hM;refine aJ ?_;exact aF (aZ hM)
def ajS:Unit→Option Int:=fun _=>
 some 0
def Vt(i0:Int)(l0:List Str)(aK:Nat→Option Int):Nat→Option Int:=fun lF=>
 if decide ((lF:Int)<i0) then
  ((idx l0 (lF:Int)).bind fun x7=>
  (idx l0 i0).bind fun x9=>
  if decide (x7=x9) then
   (some 5)
  else
   (aO (aX ((lF:Int)+1))<|
   aK (lF+1)))
 else
  (ajS ())
def Jy(l0:List Str)(i0:Int):Option Int:=
 (idx l0 i0).bind fun x1=>
 (MK x1).bind fun y3=>
 if (!y3) then
  (some 3)
 else
  (iter (Vt i0 l0) FUEL 0)
theorem ae2(S:aW)(w:World)(l0:List Str)(aD:ah.R (List Str))(i0:Int)(y:Int)(hM:Jy l0 i0=some y)(hS:sB S w)(dQ:ah.ok S w aD l0):
   Calls Tryz.prog 51 #[sL aD l0,vI i0] w (bM w (vI y)):=by
 refine bF (args:=[_,_]) Tryz.func51 rfl ((pre_nil hS).start |>.bG dQ) rfl ?_;unfold Jy at hM;refine aJ ?_;refine au fun K2 hK2=>?_;refine aR ?_;refine om ?_;refine zP 1 (kG l0 aD) hM fun x1 hx2 hM=>?_;obtain⟨y3,hy4,hM⟩:=bind_some hM;refine cv (fun hs=>aeQ _ _ x1 y3 hy4 (aM hs)) ?_;refine oe iC ?_;refine oc hM (fun iH hM=>?_) (fun iH hM=>?_)
 ·refine aJ ?_;exact aF (aZ hM)
 refine cs hK2 ?_;refine au fun K5 dx=>?_;refine aJ ?_;refine bI ?_;refine lk hM [0,1] (fun lF=>[(5,eI (lF:Int))]) [] (fun lF=>[]) ?_;clear hM;rintro aK lF hM eO hL1;dsimp only[Vt,cA,nA] at hM ⊢;refine au fun K7 gu=>?_;refine go ?_;refine co hM (fun hc6 hM=>?_) (fun hc6 hM=>?_)
 ·refine cs gu ?_;refine au fun K9 fH=>?_;refine bI ?_;refine au fun tC jC=>?_;refine dS _ (List.Sublist.refl _) ?_;refine am 0 ?_;refine am 1 ?_;refine ET 2 1 (kG l0 aD) hM fun x7 Oa hM=>?_;refine am 4 ?_;refine am 5 ?_;refine ET 6 1 (kG l0 aD) hM fun x9 sj hM=>?_;refine ay 8 rfl xI ?_;refine bS (jC _ _ ?_);refine co hM (fun rY hM=>?_) (fun rY hM=>?_)
  · refine aJ ?_;exact aF (aZ hM)
  refine cs fH ?_;refine bg ?_;refine om ?_;refine oP hM fun hM=>?_;refine oa ?_;refine bq (hL1 hM sS rI)
 refine cx dx ?_;dsimp only[ajS] at hM;refine aJ ?_;exact aF (aZ hM)
def Ac(n0:Int)(kU:Int)(hi0:Int):Option Bool:=
 some (decide (kU≤n0)&&decide (n0≤hi0))
theorem Fj(S:aW)(w:World)(n0:Int)(kU:Int)(hi0:Int)(y:Bool)(hM:Ac n0 kU hi0=some y)(hS:sB S w):
  Calls Tryz.prog 53 #[vI n0,vI kU,vI hi0] w (bM w (.bool y)):=by
 refine bF (args:=[_,_,_]) Tryz.func53 rfl ((pre_nil hS).start) rfl ?_;unfold Ac at hM;refine go ?_;exact aF (aZ hM)
def Qa(k0:Link)(x0:oW):Option Bool:=
 some ((decide (k0.A=x0.sP)&&decide (k0.dD=x0.end_))||(decide (k0.B=x0.sP)&&decide (k0.dN=x0.end_)))
theorem ae0(S:aW)(w:World)(k0:Link)(x0:oW)(y:Bool)(hM:Qa k0 x0=some y)(hS:sB S w):
  Calls Tryz.prog 118 #[.agg (amg k0),.agg (agu x0)] w (bM w (.bool y)):=by
 refine bF (args:=[_,_]) Tryz.func118 rfl ((pre_nil hS).start) rfl ?_;unfold Qa at hM;refine sr ?_;refine oB (yU k0) fun b1=>?_;refine oB (aeo x0) fun b2=>?_;refine go ?_;exact aF (aZ hM)
def P8(qo:Nat)(aK:(Int×Int×Int×Int×Int×Int×Int×Nat)→Option Bool):(Int×Int×Int×Int×Int×Int×Int)→Option Bool:=fun (Uo,Uy,Uz,UA,UC,UD,UE)=>
 aO (aX ((qo:Int)+1))<|
 aK (Uo,Uy,Uz,UA,UC,UD,UE,qo+1)
def aeZ(D7:Int)(x3:Link)(Ji:Int)(Jj:Int):Unit→Option Bool:=fun _=>
 some (decide (D7=0)||(((decide (D7=1)&&decide (0≤x3.Point))&&decide (Ji=x3.Point))&&decide (Jj≠x3.Pos)))
def Vp(i0:Int)(l0:Layout)(x0:oW)(x3:Link)(aK:(Int×Int×Int×Int×Int×Int×Int×Nat)→Option Bool):(Int×Int×Int×Int×Int×Int×Int×Nat)→Option Bool:=fun (D7,Uu,Uv,Uw,Ux,Ji,Jj,qo)=>
 if decide ((qo:Int)<i0) then
  ((idx l0.Links (qo:Int)).bind fun x9=>
  (Qa x9 x0).bind fun dR=>
  if dR then
   (aO (aX (D7+1))<|
   (idx l0.Links (qo:Int)).bind fun ny=>
   P8 qo aK ((D7+1),ny.A,ny.dD,ny.B,ny.dN,ny.Point,ny.Pos))
  else
   (P8 qo aK (D7,Uu,Uv,Uw,Ux,Ji,Jj)))
 else
  (aeZ D7 x3 Ji Jj ())
def P9(l0:Layout)(i0:Int)(x0:oW):Option Bool:=
 (idx l0.Links i0).bind fun x3=>
 iter (Vp i0 l0 x0 x3) FUEL (0,0,0,0,0,0,0,0)
theorem ajQ(S:aW)(w:World)(l0:Layout)(aD:ah.R Layout)(i0:Int)(x0:oW)(y:Bool)(hM:P9 l0 i0 x0=some y)(hS:sB S w)(dQ:ah.ok S w aD l0):
   Calls Tryz.prog 119 #[.agg (jy l0 aD),vI i0,.agg (agu x0)] w (bM w (.bool y)):=by
 refine bF (args:=[_,_,_]) Tryz.func119 rfl ((pre_nil hS).start |>.je dQ) rfl ?_;unfold P9 at hM;refine sr ?_;refine oB (iR l0 aD) fun b1=>?_;refine oB (aeo x0) fun b2=>?_;refine go ?_;refine ixs 6 6 (fun x3=>(yU x3)) (kG l0.Links aD.2.2.2) hM fun x3 hx4 hM=>?_;refine oA rfl fun b5=>?_;refine oS b5 (yU x3) ?_;refine on ?_;refine sr ?_;refine oe (dO [vI 0,vI 0,vI 0,vI 0,vI 0,vI 0]) ?_;refine oA rfl fun b6=>?_;refine oa ?_;refine oS b6 [vI 0,vI 0,vI 0,vI 0,vI 0,vI 0] ?_;refine on ?_;refine au fun K4 hK4=>?_;refine aJ ?_;refine bI ?_;refine lk hM [1,3,5,7,9] (fun (D7,Uu,Uv,Uw,Ux,Ji,Jj,qo)=>[(8,eI D7),(10,eI (qo:Int))]) [0] (fun (D7,Uu,Uv,Uw,Ux,Ji,Jj,qo)=>[own b6 183 [vI Uu,vI Uv,vI Uw,vI Ux,vI Ji,vI Jj]]) ?_;clear hM;rintro aK ⟨D7,Uu,Uv,Uw,Ux,Ji,Jj,qo⟩ hM eO hL1;dsimp only[Vp,cA,nA] at hM ⊢;refine au fun K6 dG=>?_;refine go ?_;refine co hM (fun jr hM=>?_) (fun jr hM=>?_)
 ·refine cs dG ?_;refine jl y (k:=P8 qo aK) [1,3,5,7,9,10] (fun (Uo,Uy,Uz,UA,UC,UD,UE)=>[(8,eI Uo)]) [0] (fun (Uo,Uy,Uz,UA,UC,UD,UE)=>[own b6 183 [vI Uy,vI Uz,vI UA,vI UC,vI UD,vI UE]]) ?_ ?_
  · intro zB hJ2;refine bI ?_;refine au fun K8 gP=>?_;refine dS _ (List.Sublist.refl _) ?_;refine fa 0 3 ?_;refine am 2 ?_;refine kH 3 6 6 (fun x9=>(yU x9)) (kG l0.Links aD.2.2.2) hM fun x9 sj hM=>?_;refine ay 5 rfl fC ?_;obtain⟨dR,uy,hM⟩:=bind_some hM;refine bT 6 rfl (sV (fun hs=>ae0 _ _ x9 x0 dR uy (aM hs)) ⟨rI,?_⟩);refine bS (gP _ _ ?_);refine co hM (fun zM hM=>?_) (fun zM hM=>?_)
    ·refine aR ?_;refine oP hM fun hM=>?_;refine aN ?_;refine bg ?_;refine fo 3 ?_;refine om ?_;refine ixs 6 6 (fun ny=>(yU ny)) (kG l0.Links aD.2.2.2) hM fun ny hx16 hM=>?_;refine oS b6 (yU ny) ?_;refine bq (hJ2 hM sS rI)
    refine gG (hJ2 hM sS rI)
  clear hM;rintro⟨Uo,Uy,Uz,UA,UC,UD,UE⟩ hM;dsimp only[P8,cA,nA] at hM ⊢;refine bg ?_;refine om ?_;refine oP hM fun hM=>?_;refine oa ?_;refine bq (hL1 hM sS rI)
 refine cx hK4 ?_;dsimp only[aeZ] at hM;refine go ?_;exact aF (aZ hM)
def ae1(l0:Layout)(i0:Int)(x2:Link):Unit→Option Int:=fun _=>
 (P9 l0 i0 (oW.mk x2.A x2.dD)).bind fun Ku=>
 (dH (!(!Ku)) default (P9 l0 i0 (oW.mk x2.B x2.dN))).bind fun BS=>
 if ((!Ku)||(!BS)) then
  (some 11)
 else
  (some 0)
def Vr(i0:Int)(l0:Layout)(x2:Link)(aK:Nat→Option Int):Nat→Option Int:=fun qo=>
 if decide ((qo:Int)<i0) then
  ((idx l0.Links (qo:Int)).bind fun x23=>
  (Qa x23 (oW.mk x2.A x2.dD)).bind fun y25=>
  (dH y25 default (idx l0.Links (qo:Int))).bind fun x27=>
  (dH y25 default (Qa x27 (oW.mk x2.B x2.dN))).bind fun y29=>
  if (y25&&y29) then
   (some 5)
  else
   (aO (aX ((qo:Int)+1))<|
   aK (qo+1)))
 else
  (ae1 l0 i0 x2 ())
def ZV(x2:Link)(i0:Int)(l0:Layout):Unit→Option Int:=fun _=>
 if decide ((oW.mk x2.A x2.dD)=(oW.mk x2.B x2.dN)) then
  (some 1)
 else
  (iter (Vr i0 l0 x2) FUEL 0)
def Vs(l0:Layout)(i0:Int):Option Int:=
 (idx l0.Links i0).bind fun x2=>
 aO (aX ((l0.Sections.length:Int)-1))<|
 (Ac x2.A 0 ((l0.Sections.length:Int)-1)).bind fun y6=>
 aO (!(!(!y6))||aX ((l0.Sections.length:Int)-1))<|
 (dH (!(!y6)) default (Ac x2.B 0 ((l0.Sections.length:Int)-1))).bind fun y9=>
 (dH (!((!y6)||(!y9))) default (Ac x2.dD 0 1)).bind fun dR=>
 (dH (!(((!y6)||(!y9))||(!dR))) default (Ac x2.dN 0 1)).bind fun y13=>
 aO (!(!((((!y6)||(!y9))||(!dR))||(!y13)))||aX ((l0.bE.length:Int)-1))<|
 (dH (!((((!y6)||(!y9))||(!dR))||(!y13))) default (Ac x2.Point (-1) ((l0.bE.length:Int)-1))).bind fun fP=>
 (dH (!(((((!y6)||(!y9))||(!dR))||(!y13))||(!fP))) default (Ac x2.Pos 0 1)).bind fun jc=>
 if (((((((!y6)||(!y9))||(!dR))||(!y13))||(!fP))||(!jc))||(decide (x2.Point<0)&&decide (x2.Pos≠0))) then
  (some 4)
 else
  (ZV x2 i0 l0 ())
theorem auJ(S:aW)(w:World)(l0:Layout)(aD:ah.R Layout)(i0:Int)(y:Int)(hM:Vs l0 i0=some y)(hS:sB S w)(dQ:ah.ok S w aD l0):
   Calls Tryz.prog 54 #[.agg (jy l0 aD),vI i0] w (bM w (vI y)):=by
 refine bF (args:=[_,_]) Tryz.func54 rfl ((pre_nil hS).start |>.je dQ) rfl ?_;unfold Vs at hM;refine sr ?_;refine oB (iR l0 aD) fun b1=>?_;refine go ?_;refine ixs 6 6 (fun x2=>(yU x2)) (kG l0.Links aD.2.2.2) hM fun x2 hx3 hM=>?_;refine oA rfl fun b4=>?_;refine oS b4 (yU x2) ?_;refine go ?_;refine au fun K4 hK4=>?_;refine sr ?_;refine fo 0 ?_;refine om ?_;refine oN hM fun hM=>?_;obtain⟨y6,nS,hM⟩:=bind_some hM;refine cv (fun hs=>Fj _ _ x2.A 0 ((l0.Sections.length:Int)-1) y6 nS (aM hs)) ?_;refine go ?_;obtain⟨La,hM⟩:=bQ hM;refine bY rfl (pW (hr:=fun hg=>dU (yJ La hg))) ?_;obtain⟨y9,DL,hM⟩:=bind_some hM;refine cg rfl (fun hg hs=>Fj _ _ x2.B 0 ((l0.Sections.length:Int)-1) y9 (cu DL hg) (aM hs)) ?_;refine go ?_;obtain⟨dR,uy,hM⟩:=bind_some hM;refine cg rfl (fun hg hs=>Fj _ _ x2.dD 0 1 dR (cu uy hg) (aM hs)) ?_;refine go ?_;obtain⟨y13,qK,hM⟩:=bind_some hM;refine cg rfl (fun hg hs=>Fj _ _ x2.dN 0 1 y13 (cu qK hg) (aM hs)) ?_;refine go ?_;obtain⟨acs,hM⟩:=bQ hM;refine bY rfl (pW (hr:=fun hg=>dU (yJ acs hg))) ?_;obtain⟨fP,yN,hM⟩:=bind_some hM;refine cg rfl (fun hg hs=>Fj _ _ x2.Point (-1) ((l0.bE.length:Int)-1) fP (cu yN hg) (aM hs)) ?_;refine go ?_;obtain⟨jc,xL,hM⟩:=bind_some hM;refine cg rfl (fun hg hs=>Fj _ _ x2.Pos 0 1 jc (cu xL hg) (aM hs)) ?_;refine go ?_;refine co hM (fun zN hM=>?_) (fun zN hM=>?_)
 ·refine aJ ?_;exact aF (aZ hM)
 refine cs hK4 ?_;refine jk (Nat×Nat) y (k:=ZV x2 i0 l0) [1,2] (fun _ (XM,XQ)=>[(7,eP XM),(8,eP XQ)]) [0] (fun _ (XM,XQ)=>[own XM 185 [vI x2.A,vI x2.dD],own XQ 185 [vI x2.B,vI x2.dN]]) ?_ ?_
 ·intro rM dK;refine dS _ (List.Sublist.refl _) ?_;refine fa 0 0 ?_;refine fa 2 1 ?_;refine ay 4 rfl (dO [vI x2.A,vI x2.dD]) ?_;refine fa 5 2 ?_;refine fa 7 3 ?_;refine ay 9 rfl (dO [vI x2.B,vI x2.dN]) ?_;refine jA 10 11 (⟨_,rfl,rfl,gU rfl (k:=fun Dq=>⟨rI,?_⟩)⟩) (⟨_,rfl,rfl,gU rfl (k:=fun Ik=>⟨rI,?_⟩)⟩)
  · refine aA 11 rfl rfl fun ED=>?_;refine aS 12 rfl Dq [vI x2.A,vI x2.dD] ?_;refine aS 13 rfl ED [vI x2.B,vI x2.dN] ?_;refine bS (dK (Dq,ED) hM sS rI)
  refine aA 10 rfl rfl fun KH=>?_;refine aS 12 rfl KH [vI x2.A,vI x2.dD] ?_;refine aS 13 rfl Ik [vI x2.B,vI x2.dN] ?_;refine bS (dK (KH,Ik) hM sS rI)
 clear hM;rintro⟨⟩ ⟨XM,XQ⟩ hM;dsimp only[ZV,cA,nA] at hM ⊢;refine au fun K7 gu=>?_;refine go ?_;refine oe (NS [.int .i64,.int .i64] (decide ((oW.mk x2.A x2.dD)=(oW.mk x2.B x2.dN))) (ama _ _)) ?_;refine oc hM (fun hc21 hM=>?_) (fun hc21 hM=>?_)
 ·refine aJ ?_;exact aF (aZ hM)
 refine cs gu ?_;refine au fun tC jC=>?_;refine aJ ?_;refine bI ?_;refine lk hM [1,2,7,8] (fun qo=>[(9,eI (qo:Int))]) [] (fun qo=>[]) ?_;clear hM;rintro aK qo hM eO hL1;dsimp only[Vr,cA,nA] at hM ⊢;refine au fun BZ pX=>?_;refine go ?_;refine co hM (fun hc22 hM=>?_) (fun hc22 hM=>?_)
 ·refine cs pX ?_;refine au fun yu mX=>?_;refine bI ?_;refine au fun Dn qF=>?_;refine dS _ (List.Sublist.refl _) ?_;refine fa 0 3 ?_;refine am 2 ?_;refine kH 3 6 6 (fun x23=>(yU x23)) (kG l0.Links aD.2.2.2) hM fun x23 hx24 hM=>?_;refine ay 5 rfl fC ?_;obtain⟨y25,yP,hM⟩:=bind_some hM;refine bT 6 rfl (sV (fun hs=>ae0 _ _ x23 (oW.mk x2.A x2.dD) y25 yP (aM hs)) ⟨rI,?_⟩);refine am 7 ?_;refine dX 8 rfl rfl (aY 3) ?_;refine dX 9 rfl rfl gZ ?_;refine dX 10 rfl rfl dJ ?_;obtain⟨x27,hx28,hM⟩:=bind_some hM;refine dX 11 rfl rfl (dL 6 (kG l0.Links aD.2.2.2) (fun hg=>let h:=jX (cu hx28 hg);⟨h.1,h.2.1⟩)) ?_;refine dX 12 rfl rfl (Ce (m:=6) (i:=(qo:Int)) (xs:=l0.Links) (y:=x27) (l:=(yU x27)) 0 (kG l0.Links aD.2.2.2) (fun hg=>cu hx28 hg)) ?_;refine dX 13 rfl rfl fC ?_;obtain⟨y29,Td,hM⟩:=bind_some hM;refine XD 14 rfl rfl (fun hg w hm=>let ⟨S,hs⟩:=hm;ae0 _ w x27 (oW.mk x2.B x2.dN) y29 (cu Td hg) (aM hs)) ?_;refine ay 15 rfl rR ?_;refine bS (qF _ _ ?_);refine co hM (fun hc31 hM=>?_) (fun hc31 hM=>?_)
  · refine aJ ?_;exact aF (aZ hM)
  refine cs mX ?_;refine bg ?_;refine om ?_;refine oP hM fun hM=>?_;refine oa ?_;refine bq (hL1 hM sS rI)
 refine cx jC ?_;dsimp only[ae1] at hM;refine au fun Rb Dx=>?_;refine go ?_;obtain⟨Ku,hy34,hM⟩:=bind_some hM;refine cv (fun hs=>ajQ _ _ l0 aD i0 (oW.mk x2.A x2.dD) Ku hy34 (aM hs) ⟨(kM hs),(kM hs),(kM hs),(kM hs)⟩) ?_;refine go ?_;obtain⟨BS,Ob,hM⟩:=bind_some hM;refine cg rfl (fun hg hs=>ajQ _ _ l0 aD i0 (oW.mk x2.B x2.dN) BS (cu Ob hg) (aM hs) ⟨(kM hs),(kM hs),(kM hs),(kM hs)⟩) ?_;refine bY rfl iC ?_;refine oe rT ?_;refine oc hM (fun SF hM=>?_) (fun SF hM=>?_)
 ·refine aJ ?_;exact aF (aZ hM)
 refine cs Dx ?_;refine aJ ?_;exact aF (aZ hM)
def ajI:Unit→Option Int:=fun _=>
 some 0
def Vh(l0:Layout)(rQ:Nat→Option Int):Nat→Option Int:=fun mQ=>
 if decide ((mQ:Int)<(l0.Links.length:Int)) then
  ((Vs l0 (mQ:Int)).bind fun y36=>
  if decide (y36≠0) then
   (some y36)
  else
   (aO (aX ((mQ:Int)+1))<|
   rQ (mQ+1)))
 else
  (ajI ())
def ZM(l0:Layout):Unit→Option Int:=fun _=>
 iter (Vh l0) FUEL 0
def Vg(l0:Layout)(eZ:(List Str))(kS:Nat→Option Int):Nat→Option Int:=fun gy=>
 if decide ((gy:Int)<(l0.Sections.length:Int)) then
  ((Jy eZ (gy:Int)).bind fun jc=>
  if decide (jc≠0) then
   (some jc)
  else
   ((idx l0.Sections (gy:Int)).bind fun x21=>
   (Ac x21.Length 1 400).bind fun y24=>
   (dH (!(!y24)) default (Ac x21.Limit 1000 100000)).bind fun mW=>
   (dH (!((!y24)||(!mW))) default (Ac x21.jM (-40) 40)).bind fun y28=>
   aO (!(!(((!y24)||(!mW))||(!y28)))||aX ((l0.aT.length:Int)-1))<|
   (dH (!(((!y24)||(!mW))||(!y28))) default (Ac x21.nH (-1) ((l0.aT.length:Int)-1))).bind fun y31=>
   if ((((!y24)||(!mW))||(!y28))||(!y31)) then
    (some 4)
   else
    (aO (aX ((gy:Int)+1))<|
    kS (gy+1))))
 else
  (ZM l0 ())
def Vi(l0:Layout):Unit→Option Int:=fun _=>
 (Qc l0).bind fun eZ=>
 iter (Vg l0 eZ) FUEL 0
def aeN(l0:Layout)(eU:Nat→Option Int):Nat→Option Int:=fun gM=>
 if decide ((gM:Int)<(l0.bE.length:Int)) then
  ((Jy l0.bE (gM:Int)).bind fun iw=>
  if decide (iw≠0) then
   (some iw)
  else
   (aO (aX ((gM:Int)+1))<|
   eU (gM+1)))
 else
  (Vi l0 ())
def ZL(l0:Layout):Unit→Option Int:=fun _=>
 iter (aeN l0) FUEL 0
def aeM(l0:Layout)(aK:Nat→Option Int):Nat→Option Int:=fun aH=>
 if decide ((aH:Int)<(l0.aT.length:Int)) then
  ((Jy l0.aT (aH:Int)).bind fun y5=>
  if decide (y5≠0) then
   (some y5)
  else
   (aO (aX ((aH:Int)+1))<|
   aK (aH+1)))
 else
  (ZL l0 ())
def Jw(l0:Layout):Option Int:=
 if (((decide (24<(l0.aT.length:Int))||decide (48<(l0.bE.length:Int)))||decide (96<(l0.Sections.length:Int)))||decide (192<(l0.Links.length:Int))) then
  (some 7)
 else
  (if decide ((l0.Sections.length:Int)=0) then
   (some 1)
  else
   (iter (aeM l0) FUEL 0))
theorem ZN(S:aW)(w:World)(l0:Layout)(aD:ah.R Layout)(y:Int)(hM:Jw l0=some y)(hS:sB S w)(dQ:ah.ok S w aD l0):
   Calls Tryz.prog 21 #[.agg (jy l0 aD)] w (bM w (vI y)):=by
 refine bF (args:=[_]) Tryz.func21 rfl ((pre_nil hS).start |>.je dQ) rfl ?_;unfold Jw at hM;refine sr ?_;refine oB (iR l0 aD) fun b1=>?_;refine aN ?_;refine au fun K2 hK2=>?_;refine go ?_;refine co hM (fun hc2 hM=>?_) (fun hc2 hM=>?_)
 ·refine aJ ?_;exact aF (aZ hM)
 refine cs hK2 ?_;refine au fun K5 dx=>?_;refine go ?_;refine co hM (fun hc3 hM=>?_) (fun hc3 hM=>?_)
 ·refine aJ ?_;exact aF (aZ hM)
 refine cs dx ?_;refine au fun K8 gP=>?_;refine aJ ?_;refine bI ?_;refine lk hM [1] (fun aH=>[(3,eI (aH:Int))]) [] (fun aH=>[]) ?_;clear hM;rintro aK aH hM eO hL1;dsimp only[aeM,cA,nA] at hM ⊢;refine au fun tC jC=>?_;refine go ?_;refine co hM (fun hc4 hM=>?_) (fun hc4 hM=>?_)
 ·refine cs jC ?_;refine au fun BZ pX=>?_;refine go ?_;obtain⟨y5,jW,hM⟩:=bind_some hM;refine cv (fun hs=>ae2 _ _ l0.aT aD.1 (aH:Int) y5 jW (aM hs) (kM hs)) ?_;refine go ?_;refine co hM (fun jr hM=>?_) (fun jr hM=>?_)
  · refine aR ?_;refine aN ?_;exact aF (aZ hM)
  refine cs pX ?_;refine bg ?_;refine om ?_;refine oP hM fun hM=>?_;refine oa ?_;refine bq (hL1 hM sS rI)
 refine cx gP ?_;dsimp only[ZL] at hM;refine au fun EB rU=>?_;refine aJ ?_;refine bI ?_;refine lk hM [1] (fun gM=>[(5,eI (gM:Int))]) [] (fun gM=>[]) ?_;clear hM;rintro eU gM hM xA hL2;dsimp only[aeN,cA,nA] at hM ⊢;refine au fun H7 wo=>?_;refine go ?_;refine co hM (fun qY hM=>?_) (fun qY hM=>?_)
 ·refine cs wo ?_;refine au fun EC rV=>?_;refine go ?_;obtain⟨iw,su,hM⟩:=bind_some hM;refine cv (fun hs=>ae2 _ _ l0.bE aD.2.1 (gM:Int) iw su (aM hs) (kM hs)) ?_;refine go ?_;refine co hM (fun mP hM=>?_) (fun mP hM=>?_)
  · refine aR ?_;refine aN ?_;exact aF (aZ hM)
  refine cs rV ?_;refine bg ?_;refine om ?_;refine oP hM fun hM=>?_;refine oa ?_;refine bq (hL2 hM sS rI)
 refine cx rU ?_;dsimp only[Vi] at hM;refine sr ?_;refine oe fC ?_;obtain⟨eZ,uz,hM⟩:=bind_some hM;refine bf (fu iO.nil (fun S w hs hP=>ajU _ w l0 aD eZ uz (aM hs) ⟨(kM hs),(kM hs),(kM hs),(kM hs)⟩) fG (fun r16=>?_));dsimp only[cA,nA];refine aN ?_;refine au fun K25 acA=>?_;refine aJ ?_;refine bI ?_;refine lk hM [1,7] (fun gy=>[(8,eI (gy:Int))]) [] (fun gy=>[]) ?_;clear hM;rintro kS gy hM H8 hL3;dsimp only[Vg,cA,nA] at hM ⊢;refine au fun Xp Gh=>?_;refine go ?_;refine co hM (fun hc17 hM=>?_) (fun hc17 hM=>?_)
 ·refine cs Gh ?_;refine au fun NI Ay=>?_;refine bI ?_;refine au fun Rh DC=>?_;refine aR ?_;refine om ?_;obtain⟨jc,xL,hM⟩:=bind_some hM;refine cv (fun hs=>ae2 _ _ eZ r16 (gy:Int) jc xL (aM hs) (kT hs)) ?_;refine go ?_;refine co hM (fun zN hM=>?_) (fun zN hM=>?_)
  · refine aR ?_;refine aN ?_;exact aF (aZ hM)
  refine cs DC ?_;refine sr ?_;refine fo 2 ?_;refine om ?_;refine ixs 5 5 (fun x21=>(Eb x21)) (kG l0.Sections aD.2.2.1) hM fun x21 adg hM=>?_;refine oA rfl fun b23=>?_;refine oS b23 (Eb x21) ?_;refine on ?_;refine sr ?_;refine fo 1 ?_;obtain⟨y24,hy25,hM⟩:=bind_some hM;refine cv (fun hs=>Fj _ _ x21.Length 1 400 y24 hy25 (aM hs)) ?_;refine go ?_;obtain⟨mW,hy27,hM⟩:=bind_some hM;refine cg rfl (fun hg hs=>Fj _ _ x21.Limit 1000 100000 mW (cu hy27 hg) (aM hs)) ?_;refine go ?_;obtain⟨y28,hy29,hM⟩:=bind_some hM;refine cg rfl (fun hg hs=>Fj _ _ x21.jM (-40) 40 y28 (cu hy29 hg) (aM hs)) ?_;refine go ?_;obtain⟨anU,hM⟩:=bQ hM;refine bY rfl (pW (hr:=fun hg=>dU (yJ anU hg))) ?_;obtain⟨y31,hy32,hM⟩:=bind_some hM;refine cg rfl (fun hg hs=>Fj _ _ x21.nH (-1) ((l0.aT.length:Int)-1) y31 (cu hy32 hg) (aM hs)) ?_;refine bY rfl iC ?_;refine oe rT ?_;refine oc hM (fun SE hM=>?_) (fun SE hM=>?_)
  · refine aJ ?_;exact aF (aZ hM)
  refine cs Ay ?_;refine bg ?_;refine om ?_;refine oP hM fun hM=>?_;refine oa ?_;refine bq (hL3 hM sS rI)
 refine cx acA ?_;dsimp only[ZM] at hM;refine au fun K37 Sm=>?_;refine aJ ?_;refine bI ?_;refine lk hM [1] (fun mQ=>[(11,eI (mQ:Int))]) [0] (fun mQ=>[]) ?_;clear hM;rintro rQ mQ hM Xt hL4;dsimp only[Vh,cA,nA] at hM ⊢;refine au fun K39 acE=>?_;refine go ?_;refine co hM (fun acQ hM=>?_) (fun acQ hM=>?_)
 ·refine cs acE ?_;refine au fun K41 aob=>?_;refine go ?_;obtain⟨y36,aro,hM⟩:=bind_some hM;refine cv (fun hs=>auJ _ _ l0 aD (mQ:Int) y36 aro (aM hs) ⟨(kM hs),(kM hs),(kM hs),(kM hs)⟩) ?_;refine go ?_;refine co hM (fun hc38 hM=>?_) (fun hc38 hM=>?_)
  · refine aR ?_;refine aN ?_;exact aF (aZ hM)
  refine cs aob ?_;refine bg ?_;refine om ?_;refine oP hM fun hM=>?_;refine oa ?_;refine bq (hL4 hM sS rI)
 refine cx Sm ?_;dsimp only[ajI] at hM;refine aJ ?_;exact aF (aZ hM)
end Go.Proofs.YtcalibhfgdncaaaGreatDoor

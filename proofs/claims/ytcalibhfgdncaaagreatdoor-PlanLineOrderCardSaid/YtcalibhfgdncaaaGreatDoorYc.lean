/- Functions: models, proved of the code. -/
import Derived.Test.YtcalibhfgdncaaaGreatDoorRb
namespace Go.Proofs.YtcalibhfgdncaaaGreatDoor
open Go.Dc Go.RowKit
attribute [local irreducible] CW OW AW AZ Ev
set_option maxHeartbeats 0
set_option maxRecDepth 10000
set_option linter.all false
def aj3:Unit→Option Bool:=fun _=>
 some false
def VQ(p0:Plan)(aK:Nat→Option Bool):Nat→Option Bool:=fun aH=>
 if decide ((aH:Int)<(p0.Lines.length:Int)) then
  ((idx p0.Lines (aH:Int)).bind fun x4=>
  if decide (12<(x4.bD.length:Int)) then
   (some true)
  else
   (aO (aX ((aH:Int)+1))<|
   aK (aH+1)))
 else
  (aj3 ())
def VR(p0:Plan):Option Bool:=
 if ((((((decide (8<(p0.aP.length:Int))||decide (48<(p0.Routes.length:Int)))||decide (16<(p0.Lines.length:Int)))||decide (32<(p0.Changes.length:Int)))||decide (32<(p0.Turns.length:Int)))||decide (32<(p0.bB.length:Int)))||decide (32<(p0.bA.length:Int))) then
  (some true)
 else
  (iter (VQ p0) FUEL 0)
theorem auQ(S:aW)(w:World)(p0:Plan)(av:ah.R Plan)(y:Bool)(hM:VR p0=some y)(hS:sB S w)(eF:ah.ok S w av p0):
   Calls Tryz.prog 62 #[.agg (jI p0 av)] w (bM w (.bool y)):=by
 refine bF (args:=[_]) Tryz.func62 rfl ((pre_nil hS).start |>.jZ eF) rfl ?_;unfold VR at hM;refine sr ?_;refine oB (kX p0 av) fun b1=>?_;refine aN ?_;refine au fun K2 hK2=>?_;refine go ?_;refine co hM (fun hc2 hM=>?_) (fun hc2 hM=>?_)
 ·refine aJ ?_;exact aF (aZ hM)
 refine cs hK2 ?_;refine au fun K5 dx=>?_;refine aJ ?_;refine bI ?_;refine lk hM [1] (fun aH=>[(3,eI (aH:Int))]) [] (fun aH=>[]) ?_;clear hM;rintro aK aH hM eO hL1;dsimp only[VQ,cA,nA] at hM ⊢;refine au fun K7 gu=>?_;refine go ?_;refine co hM (fun hc3 hM=>?_) (fun hc3 hM=>?_)
 ·refine cs gu ?_;refine au fun K9 fH=>?_;refine go ?_;refine ix 4 3 (kG p0.Lines av.2.2.1) hM fun x4 hx5 hM=>?_;refine oe jq ?_;refine oe vY ?_;refine oc hM (fun hc6 hM=>?_) (fun hc6 hM=>?_)
  · refine aJ ?_;exact aF (aZ hM)
  refine cs fH ?_;refine bg ?_;refine om ?_;refine oP hM fun hM=>?_;refine oa ?_;refine bq (hL1 hM sS rI)
 refine cx dx ?_;dsimp only[aj3] at hM;refine aJ ?_;exact aF (aZ hM)
def rG(n0:Int)(kU:Int)(hi0:Int):Option Bool:=
 some (decide (kU≤n0)&&decide (n0≤hi0))
theorem Ad(S:aW)(w:World)(n0:Int)(kU:Int)(hi0:Int)(y:Bool)(hM:rG n0 kU hi0=some y)(hS:sB S w):
  Calls Tryz.prog 63 #[vI n0,vI kU,vI hi0] w (bM w (.bool y)):=by
 refine bF (args:=[_,_,_]) Tryz.func63 rfl ((pre_nil hS).start) rfl ?_;unfold rG at hM;refine go ?_;exact aF (aZ hM)
def Fp(n0:Int)(kU:Int)(hi0:Int):Option Bool:=
 some (decide (kU≤n0)&&decide (n0≤hi0))
theorem Qf(S:aW)(w:World)(n0:Int)(kU:Int)(hi0:Int)(y:Bool)(hM:Fp n0 kU hi0=some y)(hS:sB S w):
  Calls Tryz.prog 123 #[vI n0,vI kU,vI hi0] w (bM w (.bool y)):=by
 refine bF (args:=[_,_,_]) Tryz.func123 rfl ((pre_nil hS).start) rfl ?_;unfold Fp at hM;refine go ?_;exact aF (aZ hM)
def Qe(s0:aQ):Option Bool:=
 (Fp s0.Length 1 40).bind fun y2=>
 (dH y2 default (Fp s0.qV 1000 100000)).bind fun y4=>
 (dH (y2&&y4) default (Fp s0.qQ 100 2000)).bind fun y6=>
 (dH ((y2&&y4)&&y6) default (Fp s0.qR 100 2000)).bind fun y8=>
 some (((y2&&y4)&&y6)&&y8)
theorem ajX(S:aW)(w:World)(s0:aQ)(y:Bool)(hM:Qe s0=some y)(hS:sB S w):
  Calls Tryz.prog 122 #[.agg (FV s0)] w (bM w (.bool y)):=by
 refine bF (args:=[_]) Tryz.func122 rfl ((pre_nil hS).start) rfl ?_;unfold Qe at hM;refine sr ?_;refine oB (rD s0) fun b1=>?_;refine aN ?_;refine sr ?_;refine fo 1 ?_;obtain⟨y2,hy3,hM⟩:=bind_some hM;refine cv (fun hs=>Qf _ _ s0.Length 1 40 y2 hy3 (aM hs)) ?_;refine om ?_;refine fg 2 ?_;obtain⟨y4,sw,hM⟩:=bind_some hM;refine cg rfl (fun hg hs=>Qf _ _ s0.qV 1000 100000 y4 (cu sw hg) (aM hs)) ?_;refine go ?_;obtain⟨y6,nS,hM⟩:=bind_some hM;refine cg rfl (fun hg hs=>Qf _ _ s0.qQ 100 2000 y6 (cu nS hg) (aM hs)) ?_;refine go ?_;obtain⟨y8,nT,hM⟩:=bind_some hM;refine cg rfl (fun hg hs=>Qf _ _ s0.qR 100 2000 y8 (cu nT hg) (aM hs)) ?_;refine oe rR ?_;refine aN ?_;exact aF (aZ hM)
def afh(p0:Plan)(i0:Int):Unit→Option Int:=fun _=>
 (idx p0.aP i0).bind fun qm=>
 (Qe qm).bind fun fP=>
 if (!fP) then
  (some 4)
 else
  (some 0)
def aau(i0:Int)(p0:Plan)(aK:Nat→Option Int):Nat→Option Int:=fun lF=>
 if decide ((lF:Int)<i0) then
  ((idx p0.aP (lF:Int)).bind fun x8=>
  (idx p0.aP i0).bind fun x10=>
  if decide (x8.Name=x10.Name) then
   (some 5)
  else
   (aO (aX ((lF:Int)+1))<|
   aK (lF+1)))
 else
  (afh p0 i0 ())
def Qx(p0:Plan)(i0:Int):Option Int:=
 (idx p0.aP i0).bind fun x2=>
 (MK x2.Name).bind fun y4=>
 if (!y4) then
  (some 3)
 else
  (iter (aau i0 p0) FUEL 0)
theorem au2(S:aW)(w:World)(p0:Plan)(av:ah.R Plan)(i0:Int)(y:Int)(hM:Qx p0 i0=some y)(hS:sB S w)(eF:ah.ok S w av p0):
   Calls Tryz.prog 64 #[.agg (jI p0 av),vI i0] w (bM w (vI y)):=by
 refine bF (args:=[_,_]) Tryz.func64 rfl ((pre_nil hS).start |>.jZ eF) rfl ?_;unfold Qx at hM;refine sr ?_;refine oB (kX p0 av) fun b1=>?_;refine aN ?_;refine au fun K2 hK2=>?_;refine sr ?_;refine fo 1 ?_;refine om ?_;obtain⟨x2,hx3,hM⟩:=bind_some hM;refine oe (dL 5 (kG p0.aP av.1) (iS hx3)) ?_;refine oe (aY 0) ?_;refine oe (dY 0 (kG p0.aP av.1) (fun _=>hx3)) ?_;obtain⟨y4,sw,hM⟩:=bind_some hM;refine cv (fun hs=>aeQ _ _ x2.Name y4 sw (aM hs)) ?_;refine oe iC ?_;refine oc hM (fun hc6 hM=>?_) (fun hc6 hM=>?_)
 ·refine aJ ?_;exact aF (aZ hM)
 refine cs hK2 ?_;refine au fun K5 dx=>?_;refine aJ ?_;refine bI ?_;refine lk hM [1,2] (fun lF=>[(5,eI (lF:Int))]) [] (fun lF=>[]) ?_;clear hM;rintro aK lF hM eO hL1;dsimp only[aau,cA,nA] at hM ⊢;refine au fun K7 gu=>?_;refine go ?_;refine co hM (fun jr hM=>?_) (fun jr hM=>?_)
 ·refine cs gu ?_;refine au fun K9 fH=>?_;refine bI ?_;refine au fun tC jC=>?_;refine dS _ (List.Sublist.refl _) ?_;refine fa 0 1 ?_;refine am 2 ?_;refine iQ 3 5 0 (kG p0.aP av.1) hM fun x8 Ta hM=>?_;refine fa 6 1 ?_;refine am 8 ?_;refine iQ 9 5 0 (kG p0.aP av.1) hM fun x10 AQ hM=>?_;refine ay 12 rfl xI ?_;refine bS (jC _ _ ?_);refine co hM (fun mP hM=>?_) (fun mP hM=>?_)
  · refine aJ ?_;exact aF (aZ hM)
  refine cs fH ?_;refine bg ?_;refine om ?_;refine oP hM fun hM=>?_;refine oa ?_;refine bq (hL1 hM sS rI)
 refine cx dx ?_;dsimp only[afh] at hM;refine au fun BZ pX=>?_;refine sr ?_;refine fo 1 ?_;refine om ?_;refine ixs 5 5 (fun qm=>(rD qm)) (kG p0.aP av.1) hM fun qm Lm hM=>?_;obtain⟨fP,yN,hM⟩:=bind_some hM;refine cv (fun hs=>ajX _ _ qm fP yN (aM hs)) ?_;refine oe iC ?_;refine oc hM (fun hc18 hM=>?_) (fun hc18 hM=>?_)
 ·refine aJ ?_;exact aF (aZ hM)
 refine cs pX ?_;refine aJ ?_;exact aF (aZ hM)
def MJ(aH:Nat)(aK:((List Hop)×Nat)→Option (List Hop)):(List Hop)→Option (List Hop):=fun OJ=>
 aO (aX ((aH:Int)+1))<|
 aK (OJ,aH+1)
def PV(tL:List Hop)(Ah:Int)(x7:Link)(aH:Nat)(aK:((List Hop)×Nat)→Option (List Hop)):Int→Option (List Hop):=fun Gb=>
 aO (decide ((tL.length+([(Hop.mk (Step.mk Ah Gb) x7.Point x7.Pos)]:List Hop).length)*32≤140737488355328))<|
 MJ aH aK (tL++([(Hop.mk (Step.mk Ah Gb) x7.Point x7.Pos)]:List Hop))
def Fg(tL:List Hop)(x7:Link)(aH:Nat)(aK:((List Hop)×Nat)→Option (List Hop)):(Int×Int)→Option (List Hop):=fun (Ah,Xa)=>
 if decide (0≤Ah) then
  (if decide (Xa=1) then
   (PV tL Ah x7 aH aK 1)
  else
   (PV tL Ah x7 aH aK 0))
 else
  (MJ aH aK tL)
def aeO(tL:List Hop):Unit→Option (List Hop):=fun _=>
 some tL
def Vk(l0:Layout)(s0:Step)(Jk:Int)(aK:((List Hop)×Nat)→Option (List Hop)):((List Hop)×Nat)→Option (List Hop):=fun (tL,aH)=>
 if decide ((aH:Int)<(l0.Links.length:Int)) then
  ((idx l0.Links (aH:Int)).bind fun x7=>
  if (decide (x7.A=s0.Section)&&decide (x7.dD=Jk)) then
   (Fg tL x7 aH aK (x7.B,x7.dN))
  else
   (if (decide (x7.B=s0.Section)&&decide (x7.dN=Jk)) then
    (Fg tL x7 aH aK (x7.A,x7.dD))
   else
    (Fg tL x7 aH aK ((-1),0))))
 else
  (aeO tL ())
def PU(l0:Layout)(s0:Step):Int→Option (List Hop):=fun Jk=>
 iter (Vk l0 s0 Jk) FUEL (([]:List Hop),0)
def Vl(l0:Layout)(s0:Step):Option (List Hop):=
 if decide (s0.Dir=1) then
  (PU l0 s0 0)
 else
  (PU l0 s0 1)
theorem auE(S:aW)(w:World)(l0:Layout)(aD:ah.R Layout)(s0:Step)(y:(List Hop))(hM:Vl l0 s0=some y)(hS:sB S w)(dQ:ah.ok S w aD l0):
   Calls Tryz.prog 168 #[.agg (jy l0 aD),.agg (FU s0)] w (Post (β:=(ah.R (List Hop))) S [] (fun g=>sL g y) (fun g=>[aj 191 g y]) w):=by
 refine bF (args:=[_,_]) Tryz.func168 rfl ((pre_nil hS).start |>.je dQ) rfl ?_;unfold Vl at hM;refine sr ?_;refine oB (iR l0 aD) fun b1=>?_;refine oB (qd s0) fun b2=>?_;refine aN ?_;refine sr ?_;refine fo 0 ?_;refine oe (dO [vI s0.Section,vI 1]) ?_;refine oA rfl fun b3=>?_;refine oS b3 [vI s0.Section,vI 1] ?_;refine on ?_;refine jl y (k:=PU l0 s0) [2,5] (fun Jk=>[]) [0,0] (fun Jk=>[own b3 185 [vI s0.Section,vI Jk]]) ?_ ?_
 ·intro rM dK;refine go ?_;refine co hM (fun hc18 hM=>?_) (fun hc18 hM=>?_)
  · refine bg ?_;refine oe (aY 1) ?_;refine kY ?_;refine bq (dK hM sS rI)
  refine gG (dK hM sS rI)
 clear hM;rintro Jk hM;dsimp only[PU,cA,nA] at hM ⊢;refine aJ ?_;refine au fun K4 hK4=>?_;refine aJ ?_;refine bI ?_;refine rn Hop 191 (fun _=>()) ?_;refine lr as6 hM [2,5] (fun (tL,aH) MX=>[(6,eS MX tL),(7,eI (aH:Int))]) [0] (fun (tL,aH) MX=>[aj 191 MX tL]) ?_;clear hM;rintro aK ⟨tL,aH⟩ MX hM eO hL1;dsimp only[Vk,cA,nA] at hM ⊢;refine au fun K6 dG=>?_;refine go ?_;refine co hM (fun iH hM=>?_) (fun iH hM=>?_)
 ·refine cs dG ?_;refine jk (SR (ah.R Hop)) y (k:=MJ aH aK) [2,5,7] (fun OJ Wi=>[(6,eS Wi OJ)]) [0] (fun OJ Wi=>[aj 191 Wi OJ]) ?_ ?_
  · intro FR hJ3;refine go ?_;refine ixs 6 6 (fun x7=>(yU x7)) (kG l0.Links aD.2.2.2) hM fun x7 Oa hM=>?_;refine oA rfl fun b9=>?_;refine oS b9 (yU x7) ?_;refine on ?_;refine sr ?_;refine oe (dO [vI (-1),vI 0]) ?_;refine oA rfl fun b10=>?_;refine oS b10 [vI (-1),vI 0] ?_;refine on ?_;refine jl y (k:=Fg tL x7 aH aK) [2,5,6,7,8,9] (fun (Ah,Xa)=>[]) [0] (fun (Ah,Xa)=>[own b10 185 [vI Ah,vI Xa]]) ?_ ?_
    ·intro Xq yK;refine go ?_;refine co hM (fun hc16 hM=>?_) (fun hc16 hM=>?_)
     ·refine bg ?_;refine fo 2 ?_;refine fo 3 ?_;refine oe (dO [vI x7.B,vI x7.dN]) ?_;refine oS b10 [vI x7.B,vI x7.dN] ?_;refine bq (yK hM sS rI)
     refine go ?_;refine co hM (fun hc17 hM=>?_) (fun hc17 hM=>?_)
     ·refine bg ?_;refine fo 0 ?_;refine fo 1 ?_;refine oe (dO [vI x7.A,vI x7.dD]) ?_;refine oS b10 [vI x7.A,vI x7.dD] ?_;refine bq (yK hM sS rI)
     refine gG (yK hM sS rI)
    clear hM;rintro⟨Ah,Xa⟩ hM;dsimp only[Fg,cA,nA] at hM ⊢;refine go ?_;refine co hM (fun rY hM=>?_) (fun rY hM=>?_)
    ·refine aJ ?_;refine jl y (k:=PV tL Ah x7 aH aK) [2,5,6,7,8,9] (fun Gb=>[(10,eI Gb)]) [] (fun Gb=>[]) ?_ ?_
     ·intro Xr zL;refine go ?_;refine co hM (fun rZ hM=>?_) (fun rZ hM=>?_)
      ·refine bg ?_;refine oa ?_;refine bq (zL hM sS rI)
      refine gG (zL hM sS rI)
     clear hM;rintro Gb hM;dsimp only[PV,cA,nA] at hM ⊢;refine bg ?_;refine om ?_;refine fo 0 ?_;refine om ?_;refine oe (dO [vI Ah,vI Gb]) ?_;refine fo 4 ?_;refine fo 5 ?_;refine oe (dO [vI Ah,vI Gb,vI x7.Point,vI x7.Pos]) ?_;refine bf (fI (α:=Hop) 191 (fun _=>()) ([(Hop.mk (Step.mk Ah Gb) x7.Point x7.Pos)]:List Hop) oF (fun Jq=>?_));obtain⟨Sn,hM⟩:=bQ hM;refine bf (iq (r:=MX) (r2:=Jq) uR (Kn.aj (e:=191) (r:=Jq) hA) oF (of_decide_eq_true Sn) (fun wU=>?_));refine oa ?_;refine bq (hJ3 wU hM sS rI)
    refine gG (hJ3 MX hM sS rI)
  clear hM;rintro OJ Wi hM;dsimp only[MJ,cA,nA] at hM ⊢;refine bg ?_;refine om ?_;refine oP hM fun hM=>?_;refine oa ?_;refine bq (hL1 Wi hM sS rI)
 refine cx hK4 ?_;dsimp only[aeO] at hM;refine aR ?_;refine aN ?_;obtain rfl:=some_inj hM;refine aF (eG (fun w hm=>bR MX hm rfl))
def ajZ:Unit→Option (Hop×Bool):=fun _=>
 some ((Hop.mk (Step.mk 0 0) 0 0),false)
def VF(y5:(List Hop))(b0:Step)(aK:Nat→Option (Hop×Bool)):Nat→Option (Hop×Bool):=fun aH=>
 if decide ((aH:Int)<(y5.length:Int)) then
  ((idx y5 (aH:Int)).bind fun x9=>
  if decide (x9.To=b0) then
   ((idx y5 (aH:Int)).bind fun lS=>
   some (lS,true))
  else
   (aO (aX ((aH:Int)+1))<|
   aK (aH+1)))
 else
  (ajZ ())
def VG(l0:Layout)(a0:Step)(b0:Step):Option (Hop×Bool):=
 (Vl l0 a0).bind fun y5=>
 iter (VF y5 b0) FUEL 0
theorem aj0(S:aW)(w:World)(l0:Layout)(aD:ah.R Layout)(a0:Step)(b0:Step)(y:Hop×Bool)(hM:VG l0 a0 b0=some y)(hS:sB S w)(dQ:ah.ok S w aD l0):
   Calls Tryz.prog 124 #[.agg (jy l0 aD),.agg (FU a0),.agg (FU b0)] w (bM w (.tuple #[.agg (Rj y.1),.bool y.2])):=by
 refine bF (args:=[_,_,_]) Tryz.func124 rfl ((pre_nil hS).start |>.je dQ) rfl ?_;unfold VG at hM;refine sr ?_;refine oB (iR l0 aD) fun b1=>?_;refine oB (qd a0) fun b2=>?_;refine oB (qd b0) fun b3=>?_;refine oA rfl fun b4=>?_;refine go ?_;obtain⟨y5,jW,hM⟩:=bind_some hM;refine bf (fu iO.nil (fun S w hs hP=>auE _ w l0 aD a0 y5 jW (aM hs) ⟨(kM hs),(kM hs),(kM hs),(kM hs)⟩) fG (fun r7=>?_));dsimp only[cA,nA];refine aN ?_;refine au fun K3 hK3=>?_;refine go ?_;refine lk hM [5,6,8] (fun aH=>[(9,eI (aH:Int))]) [3,0,0,0,0,0] (fun aH=>[]) ?_;clear hM;rintro aK aH hM eO hL1;dsimp only[VF,cA,nA] at hM ⊢;refine au fun K5 dx=>?_;refine go ?_;refine co hM (fun hc8 hM=>?_) (fun hc8 hM=>?_)
 ·refine cs dx ?_;refine au fun K7 gu=>?_;refine bI ?_;refine au fun K8 gP=>?_;refine dS _ (List.Sublist.refl _) ?_;refine am 0 ?_;refine am 1 ?_;obtain⟨x9,sj,hM⟩:=bind_some hM;refine ay 2 rfl (dL 4 (Kn.aj (e:=191) (r:=r7) hA) (iS sj)) ?_;refine ay 3 rfl (aY 0) ?_;refine ay 4 rfl (Ce (m:=2) (i:=(aH:Int)) (xs:=y5) (y:=x9) (l:=(qd x9.To)) 0 (Kn.aj (e:=191) (r:=r7) hA) (fun _=>sj)) ?_;refine ay 5 rfl fC ?_;refine ay 6 rfl (NS [.int .i64,.int .i64] (decide (x9.To=b0)) (agt _ _)) ?_;refine bS (gP _ _ ?_);refine co hM (fun rY hM=>?_) (fun rY hM=>?_)
  · refine aR ?_;refine om ?_;refine ixs 4 4 (fun lS=>(Us lS)) (Kn.aj (e:=191) (r:=r7) hA) hM fun lS SY hM=>?_;refine oS b4 (Us lS) ?_;refine aN ?_;exact aF (uS hM)
  refine cs gu ?_;refine bg ?_;refine om ?_;refine oP hM fun hM=>?_;refine oa ?_;refine bq (hL1 hM sS rI)
 refine cx hK3 ?_;dsimp only[ajZ] at hM;refine sr ?_;refine oe (dO [vI 0,vI 0,vI 0,vI 0]) ?_;refine oS b4 [vI 0,vI 0,vI 0,vI 0] ?_;refine aN ?_;exact aF (uS hM)
def ae6(gM:Nat)(eU:Nat→Option Int):Unit→Option Int:=fun _=>
 aO (aX ((gM:Int)+1))<|
 eU (gM+1)
def Qd(gM:Nat)(r0:aG)(eU:Nat→Option Int)(kS:Nat→Option Int):Nat→Option Int:=fun xO=>
 if decide ((xO:Int)<(gM:Int)) then
  ((idx r0.Steps (xO:Int)).bind fun x23=>
  (idx r0.Steps (gM:Int)).bind fun x25=>
  if decide (x23.Section=x25.Section) then
   (some 5)
  else
   (aO (aX ((xO:Int)+1))<|
   kS (xO+1)))
 else
  (ae6 gM eU ())
def Z0(mQ:Nat)(rQ:Nat→Option Int):Bool→Option Int:=fun Ut=>
 if (!Ut) then
  (some 11)
 else
  (aO (aX ((mQ:Int)+1))<|
  rQ (mQ+1))
def ajV:Unit→Option Int:=fun _=>
 some 0
def VD(r0:aG)(l0:Layout)(rQ:Nat→Option Int):Nat→Option Int:=fun mQ=>
 if decide ((mQ:Int)<(r0.Steps.length:Int)) then
  (aO (aX ((mQ:Int)-1))<|
  (idx r0.Steps ((mQ:Int)-1)).bind fun x34=>
  (idx r0.Steps (mQ:Int)).bind fun zu=>
  (VG l0 x34 zu).bind fun y38=>
  Z0 mQ rQ y38.2)
 else
  (ajV ())
def ZY(r0:aG)(l0:Layout):Unit→Option Int:=fun _=>
 iter (VD r0 l0) FUEL 1
def VB(r0:aG)(l0:Layout)(eU:Nat→Option Int):Nat→Option Int:=fun gM=>
 if decide ((gM:Int)<(r0.Steps.length:Int)) then
  (iter (Qd gM r0 eU) FUEL 0)
 else
  (ZY r0 l0 ())
def ZX(r0:aG)(l0:Layout):Unit→Option Int:=fun _=>
 iter (VB r0 l0) FUEL 0
def VA(r0:aG)(l0:Layout)(aK:Nat→Option Int):Nat→Option Int:=fun aH=>
 if decide ((aH:Int)<(r0.Steps.length:Int)) then
  ((idx r0.Steps (aH:Int)).bind fun x10=>
  aO (aX ((l0.Sections.length:Int)-1))<|
  (Fp x10.Section 0 ((l0.Sections.length:Int)-1)).bind fun y13=>
  (dH (!(!y13)) default (idx r0.Steps (aH:Int))).bind fun ny=>
  (dH (!(!y13)) default (Fp ny.Dir 0 1)).bind fun mD=>
  if ((!y13)||(!mD)) then
   (some 4)
  else
   (aO (aX ((aH:Int)+1))<|
   aK (aH+1)))
 else
  (ZX r0 l0 ())
def MP(l0:Layout)(r0:aG):Option Int:=
 (Jw l0).bind fun y3=>
 if decide (y3≠0) then
  (some 1)
 else
  (if (decide (24<(r0.Steps.length:Int))||decide (2<r0.Overlap)) then
   (some 7)
  else
   (aO (!(!(decide (r0.Overlap<0)))||aX ((r0.Steps.length:Int)-r0.Overlap))<|
   if (decide (r0.Overlap<0)||decide (((r0.Steps.length:Int)-r0.Overlap)<2)) then
    (some 4)
   else
    (iter (VA r0 l0) FUEL 0)))
theorem ajW(S:aW)(w:World)(l0:Layout)(aD:ah.R Layout)(r0:aG)(ak:ah.R aG)(y:Int)(hM:MP l0 r0=some y)(hS:sB S w)(dQ:ah.ok S w aD l0)(oL:ah.ok S w ak r0):
   Calls Tryz.prog 65 #[.agg (jy l0 aD),.agg (xC r0 ak)] w (bM w (vI y)):=by
 refine bF (args:=[_,_]) Tryz.func65 rfl ((pre_nil hS).start |>.je dQ|>.bG oL) rfl ?_;unfold MP at hM;refine sr ?_;refine oB (iR l0 aD) fun b1=>?_;refine oB (nV r0 ak) fun b2=>?_;refine aN ?_;refine au fun K2 hK2=>?_;refine sr ?_;refine oe fC ?_;obtain⟨y3,hy4,hM⟩:=bind_some hM;refine cv (fun hs=>ZN _ _ l0 aD y3 hy4 (aM hs) ⟨(kM hs),(kM hs),(kM hs),(kM hs)⟩) ?_;refine oe nQ ?_;refine oc hM (fun iH hM=>?_) (fun iH hM=>?_)
 ·refine aJ ?_;exact aF (aZ hM)
 refine cs hK2 ?_;refine au fun K5 dx=>?_;refine go ?_;refine co hM (fun hc6 hM=>?_) (fun hc6 hM=>?_)
 ·refine aJ ?_;exact aF (aZ hM)
 refine cs dx ?_;refine au fun K8 gP=>?_;refine go ?_;obtain⟨hI7,hM⟩:=bQ hM;refine bY rfl (pW (hr:=fun hg=>dU (yJ hI7 hg))) ?_;refine bY rfl gq ?_;refine oe rT ?_;refine oc hM (fun hc8 hM=>?_) (fun hc8 hM=>?_)
 ·refine aJ ?_;exact aF (aZ hM)
 refine cs gP ?_;refine au fun nG gH=>?_;refine aJ ?_;refine bI ?_;refine lk hM [2,3] (fun aH=>[(5,eI (aH:Int))]) [] (fun aH=>[]) ?_;clear hM;rintro aK aH hM eO hL1;dsimp only[VA,cA,nA] at hM ⊢;refine au fun zA nR=>?_;refine go ?_;refine co hM (fun qY hM=>?_) (fun qY hM=>?_)
 ·refine cs nR ?_;refine au fun Dn qF=>?_;refine bI ?_;refine au fun EB rU=>?_;refine dS _ (List.Sublist.refl _) ?_;refine fa 0 0 ?_;refine am 2 ?_;refine iQ 3 2 0 (kG r0.Steps ak) hM fun x10 AQ hM=>?_;refine fa 6 2 ?_;refine ay 8 rfl jq ?_;obtain⟨acp,hM⟩:=bQ hM;refine ay 9 rfl (pW (hr:=fun hg=>dU acp)) ?_;obtain⟨y13,qK,hM⟩:=bind_some hM;refine bT 10 rfl (sV (fun hs=>Qf _ _ x10.Section 0 ((l0.Sections.length:Int)-1) y13 qK (aM hs)) ⟨rI,?_⟩);refine ay 11 rfl iC ?_;refine am 12 ?_;refine dX 13 rfl rfl (aY 0) ?_;refine dX 14 rfl rfl gZ ?_;refine dX 15 rfl rfl dJ ?_;obtain⟨ny,hx16,hM⟩:=bind_some hM;refine dX 16 rfl rfl (dL 2 (kG r0.Steps ak) (fun hg=>let h:=jX (cu hx16 hg);⟨h.1,h.2.1⟩)) ?_;refine dX 17 rfl rfl (aY 1) ?_;refine dX 18 rfl rfl (dY 1 (kG r0.Steps ak) (fun hg=>cu hx16 hg)) ?_;obtain⟨mD,DR,hM⟩:=bind_some hM;refine XD 19 rfl rfl (fun hg w hm=>let ⟨S,hs⟩:=hm;Qf _ w ny.Dir 0 1 mD (cu DR hg) (aM hs)) ?_;refine dX 20 rfl rfl iC ?_;refine ay 21 rfl rT ?_;refine bS (rU _ _ ?_);refine co hM (fun hc19 hM=>?_) (fun hc19 hM=>?_)
  · refine aJ ?_;exact aF (aZ hM)
  refine cs qF ?_;refine bg ?_;refine om ?_;refine oP hM fun hM=>?_;refine oa ?_;refine bq (hL1 hM sS rI)
 refine cx gH ?_;dsimp only[ZX] at hM;refine au fun H7 wo=>?_;refine aJ ?_;refine bI ?_;refine lk hM [2,3] (fun gM=>[(6,eI (gM:Int))]) [] (fun gM=>[]) ?_;clear hM;rintro eU gM hM xA hL2;dsimp only[VB,cA,nA] at hM ⊢;refine au fun EC rV=>?_;refine go ?_;refine co hM (fun hc21 hM=>?_) (fun hc21 hM=>?_)
 ·refine cs rV ?_;refine au fun Rc Dy=>?_;refine go ?_;refine lk hM [2,3,6] (fun xO=>[(7,eI (xO:Int))]) [] (fun xO=>[]) ?_;clear hM;rintro kS xO hM H8 hL3;dsimp only[Qd,cA,nA] at hM ⊢;refine au fun Xo Gg=>?_;refine go ?_;refine co hM (fun hc22 hM=>?_) (fun hc22 hM=>?_)
  · refine cs Gg ?_;refine au fun Rf Dz=>?_;refine bI ?_;refine au fun Xp Gh=>?_;refine dS _ (List.Sublist.refl _) ?_;refine fa 0 0 ?_;refine am 2 ?_;refine iQ 3 2 0 (kG r0.Steps ak) hM fun x23 hx24 hM=>?_;refine fa 6 0 ?_;refine am 8 ?_;refine iQ 9 2 0 (kG r0.Steps ak) hM fun x25 Gl hM=>?_;refine ay 12 rfl oK ?_;refine bS (Gh _ _ ?_);refine co hM (fun hc27 hM=>?_) (fun hc27 hM=>?_)
    ·refine aJ ?_;exact aF (aZ hM)
    refine cs Dz ?_;refine bg ?_;refine om ?_;refine oP hM fun hM=>?_;refine oa ?_;refine bq (hL3 hM sS rI)
  refine cx Dy ?_;dsimp only[ae6] at hM;refine bg ?_;refine om ?_;refine oP hM fun hM=>?_;refine oa ?_;refine bq (hL2 hM sS rI)
 refine cx wo ?_;dsimp only[ZY] at hM;refine au fun NI Ay=>?_;refine aJ ?_;refine bI ?_;refine lk hM [2,3] (fun mQ=>[(8,eI (mQ:Int))]) [] (fun mQ=>[]) ?_;clear hM;rintro rQ mQ hM Xt hL4;dsimp only[VD,cA,nA] at hM ⊢;refine au fun K31 Sg=>?_;refine go ?_;refine co hM (fun Lf hM=>?_) (fun Lf hM=>?_)
 ·refine cs Sg ?_;refine au fun K33 IK=>?_;refine bI ?_;refine jl y (k:=Z0 mQ rQ) [2,3,8] (fun Ut=>[(10,.v (.bool Ut))]) [] (fun Ut=>[]) ?_ ?_
  · intro Xr zL;refine dS _ (List.Sublist.refl _) ?_;refine ay 0 rfl fC ?_;refine fa 1 0 ?_;refine am 3 ?_;obtain⟨acz,hM⟩:=bQ hM;refine ay 4 rfl (pW (hr:=fun hg=>dU acz)) ?_;refine kH 5 2 2 (fun x34=>(qd x34)) (kG r0.Steps ak) hM fun x34 Ck hM=>?_;refine fa 7 0 ?_;refine am 9 ?_;refine kH 10 2 2 (fun zu=>(qd zu)) (kG r0.Steps ak) hM fun zu ahG hM=>?_;obtain⟨y38,hy39,hM⟩:=bind_some hM;refine jA 12 16 (⟨_,rfl,rfl,jh (fun w hm=>let ⟨S,hs⟩:=hm;aj0 _ w l0 aD x34 zu y38 hy39 (aM hs) ⟨(kM hs),(kM hs),(kM hs),(kM hs)⟩) ⟨rI,?_⟩⟩) (⟨_,rfl,rfl,gU rfl (k:=fun ED=>⟨rI,?_⟩)⟩)
    ·refine am 13 ?_;refine ay 14 rfl (bU (vs:=[.agg (Rj y38.1),.bool y38.2])) ?_;refine ay 15 rfl (bU (vs:=[.agg (Rj y38.1),.bool y38.2])) ?_;refine aA 16 rfl rfl fun KH=>?_;refine aS 17 rfl KH (Us y38.1) ?_;refine ay 18 rfl eX ?_;refine bS (zL hM sS rI)
    refine bT 12 rfl (sV (fun hs=>aj0 _ _ l0 aD x34 zu y38 hy39 (aM hs) ⟨(kM hs),(kM hs),(kM hs),(kM hs)⟩) ⟨rI,?_⟩);refine am 13 ?_;refine ay 14 rfl (bU (vs:=[.agg (Rj y38.1),.bool y38.2])) ?_;refine ay 15 rfl (bU (vs:=[.agg (Rj y38.1),.bool y38.2])) ?_;refine aS 17 rfl ED (Us y38.1) ?_;refine ay 18 rfl eX ?_;refine bS (zL hM sS rI)
  clear hM;rintro Ut hM;dsimp only[Z0,cA,nA] at hM ⊢;refine aR ?_;refine oe iC ?_;refine oc hM (fun hc31 hM=>?_) (fun hc31 hM=>?_)
  · refine aJ ?_;exact aF (aZ hM)
  refine cs IK ?_;refine bg ?_;refine om ?_;refine oP hM fun hM=>?_;refine oa ?_;refine bq (hL4 hM sS rI)
 refine cx Ay ?_;dsimp only[ajV] at hM;refine aJ ?_;exact aF (aZ hM)
def MV(p0:Plan)(kU:Int)(hi0:Int):Option Bool:=
 some (((decide (0≤kU)&&decide (kU≤hi0))&&decide (hi0<(IntKind.i64.wrap (kU+p0.bJ))))&&decide (hi0≤7200))
theorem afc(S:aW)(w:World)(p0:Plan)(av:ah.R Plan)(kU:Int)(hi0:Int)(y:Bool)(hM:MV p0 kU hi0=some y)(hS:sB S w)(eF:ah.ok S w av p0):
  Calls Tryz.prog 125 #[.agg (jI p0 av),vI kU,vI hi0] w (bM w (.bool y)):=by
 refine bF (args:=[_,_,_]) Tryz.func125 rfl ((pre_nil hS).start |>.jZ eF) rfl ?_;unfold MV at hM;refine sr ?_;refine oB (kX p0 av) fun b1=>?_;refine go ?_;refine bY rfl RZ ?_;refine go ?_;exact aF (aZ hM)
def ae5(aH:Nat)(aK:((List Cell)×Nat)→Option ((List Cell)×Int×Int))(EW:List Cell):Unit→Option ((List Cell)×Int×Int):=fun _=>
 aO (aX ((aH:Int)+1))<|
 aK (EW,aH+1)
def Vy(lS:Section)(EO:Int)(aH:Nat)(aK:((List Cell)×Nat)→Option ((List Cell)×Int×Int))(eU:((List Cell)×Nat)→Option ((List Cell)×Int×Int)):((List Cell)×Nat)→Option ((List Cell)×Int×Int):=fun (EW,dI)=>
 if decide ((dI:Int)<lS.Length) then
  (aO (decide ((EW.length+([(Cell.mk lS.Limit EO)]:List Cell).length)*16≤140737488355328))<|
  aO (aX ((dI:Int)+1))<|
  eU ((EW++([(Cell.mk lS.Limit EO)]:List Cell)),dI+1))
 else
  (ae5 aH aK EW ())
def JA(lS:Section)(aH:Nat)(aK:((List Cell)×Nat)→Option ((List Cell)×Int×Int))(zS:List Cell):Int→Option ((List Cell)×Int×Int):=fun EO=>
 iter (Vy lS EO aH aK) FUEL (zS,0)
def ae4(zS:List Cell)(r0:aG)(l0:Layout):Unit→Option ((List Cell)×Int×Int):=fun _=>
 if decide (4000<(zS.length:Int)) then
  (some (([]:List Cell),0,7))
 else
  ((idx r0.Steps 0).bind fun x27=>
  (idx l0.Sections x27.Section).bind fun x29=>
  some (zS,x29.Length,0))
def Vx(r0:aG)(l0:Layout)(aK:((List Cell)×Nat)→Option ((List Cell)×Int×Int)):((List Cell)×Nat)→Option ((List Cell)×Int×Int):=fun (zS,aH)=>
 aO (aX ((r0.Steps.length:Int)-r0.Overlap))<|
 if decide ((aH:Int)<((r0.Steps.length:Int)-r0.Overlap)) then
  ((idx r0.Steps (aH:Int)).bind fun x10=>
  (idx l0.Sections x10.Section).bind fun lS=>
  (idx r0.Steps (aH:Int)).bind fun x21=>
  if decide (x21.Dir=1) then
   (aO (aX (-lS.jM))<|
   JA lS aH aK zS (-lS.jM))
  else
   (JA lS aH aK zS lS.jM))
 else
  (ae4 zS r0 l0 ())
def Vz(l0:Layout)(r0:aG):Option ((List Cell)×Int×Int):=
 (MP l0 r0).bind fun y3=>
 if decide (y3≠0) then
  (some (([]:List Cell),0,y3))
 else
  (iter (Vx r0 l0) FUEL (([]:List Cell),0))
theorem auL(S:aW)(w:World)(l0:Layout)(aD:ah.R Layout)(r0:aG)(ak:ah.R aG)(y:(List Cell)×Int×Int)(hM:Vz l0 r0=some y)(hS:sB S w)(dQ:ah.ok S w aD l0)(oL:ah.ok S w ak r0):
   Calls Tryz.prog 169 #[.agg (jy l0 aD),.agg (xC r0 ak)] w (Post (β:=(ah.R (List Cell))) S [] (fun g=> .tuple #[sL g y.1,vI y.2.1,vI y.2.2]) (fun g=>[aj 254 g y.1]) w):=by
 refine bF (args:=[_,_]) Tryz.func169 rfl ((pre_nil hS).start |>.je dQ|>.bG oL) rfl ?_;unfold Vz at hM;refine sr ?_;refine oB (iR l0 aD) fun b1=>?_;refine oB (nV r0 ak) fun b2=>?_;refine oa ?_;refine oa ?_;refine aN ?_;refine au fun K2 hK2=>?_;refine go ?_;obtain⟨y3,hy4,hM⟩:=bind_some hM;refine cv (fun hs=>ajW _ _ l0 aD r0 ak y3 hy4 (aM hs) ⟨(kM hs),(kM hs),(kM hs),(kM hs)⟩ (kM hs)) ?_;refine go ?_;refine co hM (fun iH hM=>?_) (fun iH hM=>?_)
 ·refine go ?_;refine rn Cell 254 (fun _=>()) ?_;obtain rfl:=some_inj hM;refine aF (qp (fun w hm=>bR Gy hm rfl))
 refine cs hK2 ?_;refine aJ ?_;refine au fun K7 gu=>?_;refine aJ ?_;refine bI ?_;refine rn Cell 254 (fun _=>()) ?_;refine lr Gy hM [2,3] (fun (zS,aH) PI=>[(8,eS PI zS),(9,eI (aH:Int))]) [0] (fun (zS,aH) PI=>[aj 254 PI zS]) ?_;clear hM;rintro aK ⟨zS,aH⟩ PI hM eO hL1;dsimp only[Vx,cA,nA] at hM ⊢;refine au fun K9 fH=>?_;refine go ?_;refine oN hM fun hM=>?_;refine oe gq ?_;refine oc hM (fun qY hM=>?_) (fun qY hM=>?_)
 ·refine cs fH ?_;refine au fun nG gH=>?_;refine bI ?_;refine au fun BZ pX=>?_;refine dS _ (List.Sublist.refl _) ?_;refine fa 0 2 ?_;refine fa 2 0 ?_;refine am 4 ?_;refine iQ 5 2 0 (kG r0.Steps ak) hM fun x10 AQ hM=>?_;refine kH 8 5 5 (fun lS=>(Eb lS)) (kG l0.Sections aD.2.2.1) hM fun lS SY hM=>?_;refine aA 10 rfl rfl fun b14=>?_;refine aS 11 rfl b14 (Eb lS) ?_;refine bS (pX _ _ ?_);refine sr ?_;refine fo 3 ?_;refine aN ?_;refine jl y (k:=JA lS aH aK zS) [2,3,8,9,10] (fun EO=>[(11,eI EO)]) [] (fun EO=>[]) ?_ ?_
  · intro FR hJ3;refine sr ?_;refine fo 0 ?_;refine om ?_;refine ix 2 1 (kG r0.Steps ak) hM fun x21 adg hM=>?_;refine oe oK ?_;refine oc hM (fun Ld hM=>?_) (fun Ld hM=>?_)
    ·refine bg ?_;refine om ?_;obtain⟨anR,hM⟩:=bQ hM;refine oe (Yj (hr:=fun hg=>dU anR)) ?_;refine oa ?_;refine bq (hJ3 hM sS rI)
    refine gG (hJ3 hM sS rI)
  clear hM;rintro EO hM;dsimp only[JA,cA,nA] at hM ⊢;refine aJ ?_;refine bI ?_;refine lr PI hM [2,3,9,10,11] (fun (EW,dI) PL=>[(8,eS PL EW),(12,eI (dI:Int))]) [1] (fun (EW,dI) PL=>[aj 254 PL EW]) ?_;clear hM;rintro eU ⟨EW,dI⟩ PL hM xA hL2;dsimp only[Vy,cA,nA] at hM ⊢;refine au fun Dn qF=>?_;refine go ?_;refine co hM (fun rZ hM=>?_) (fun rZ hM=>?_)
  · refine cs qF ?_;refine au fun Rb Dx=>?_;refine bI ?_;refine bg ?_;refine om ?_;refine fo 2 ?_;refine om ?_;refine oe (dO [vI lS.Limit,vI EO]) ?_;refine bf (fI (α:=Cell) 254 (fun _=>()) ([(Cell.mk lS.Limit EO)]:List Cell) oF (fun r16=>?_));obtain⟨Sq,hM⟩:=bQ hM;refine bf (iq (r:=PL) (r2:=r16) uR (Kn.aj (e:=254) (r:=r16) hA) oF (of_decide_eq_true Sq) (fun tQ=>?_));refine oa ?_;refine bq (Dx _ _ ?_);refine bg ?_;refine om ?_;refine oP hM fun hM=>?_;refine oa ?_;refine bq (hL2 tQ hM sS rI)
  refine cx gH ?_;dsimp only[ae5] at hM;refine bg ?_;refine om ?_;refine oP hM fun hM=>?_;refine oa ?_;refine bq (hL1 PL hM sS rI)
 refine cx gu ?_;dsimp only[ae4] at hM;refine au fun Ca pY=>?_;refine go ?_;refine co hM (fun hc25 hM=>?_) (fun hc25 hM=>?_)
 ·refine go ?_;refine rn Cell 254 (fun _=>()) ?_;obtain rfl:=some_inj hM;refine aF (qp (fun w hm=>bR Gy hm rfl))
 refine cs pY ?_;refine au fun Rc Dy=>?_;refine dS _ (List.Sublist.refl _) ?_;refine am 0 ?_;refine fa 1 2 ?_;refine fa 3 0 ?_;refine iQ 5 2 0 (kG r0.Steps ak) hM fun x27 hx28 hM=>?_;refine iQ 8 5 1 (kG l0.Sections aD.2.2.1) hM fun x29 adh hM=>?_;refine ay 11 rfl eX ?_;refine ay 12 rfl eX ?_;refine ay 13 rfl eX ?_;refine bS (Dy _ _ ?_);obtain rfl:=some_inj hM;refine aF (qp (fun w hm=>bR PI hm rfl))
def ajY:Unit→Option Int:=fun _=>
 some 0
def Z4(r0:aG)(l0:Layout)(s0:aQ)(aK:Nat→Option Int):Nat→Option Int:=fun aH=>
 aO (aX ((r0.Steps.length:Int)-r0.Overlap))<|
 if decide ((aH:Int)<((r0.Steps.length:Int)-r0.Overlap)) then
  ((idx r0.Steps (aH:Int)).bind fun gK=>
  (idx l0.Sections gK.Section).bind fun ny=>
  if decide (ny.Length<(if s0.Length>2 then s0.Length else 2)) then
   (some 12)
  else
   (aO (aX ((aH:Int)+1))<|
   aK (aH+1)))
 else
  (ajY ())
def VE(l0:Layout)(r0:aG)(s0:aQ):Option Int:=
 (Vz l0 r0).bind fun y4=>
 if decide (y4.2.2≠0) then
  (some y4.2.2)
 else
  ((Qe s0).bind fun y8=>
  if (!y8) then
   (some 1)
  else
   (iter (Z4 r0 l0 s0) FUEL 0))
theorem auM(S:aW)(w:World)(l0:Layout)(aD:ah.R Layout)(r0:aG)(ak:ah.R aG)(s0:aQ)(y:Int)(hM:VE l0 r0 s0=some y)(hS:sB S w)(dQ:ah.ok S w aD l0)(oL:ah.ok S w ak r0):
   Calls Tryz.prog 126 #[.agg (jy l0 aD),.agg (xC r0 ak),.agg (FV s0)] w (bM w (vI y)):=by
 refine bF (args:=[_,_,_]) Tryz.func126 rfl ((pre_nil hS).start |>.je dQ|>.bG oL) rfl ?_;unfold VE at hM;refine sr ?_;refine oB (iR l0 aD) fun b1=>?_;refine oB (nV r0 ak) fun b2=>?_;refine oB (rD s0) fun b3=>?_;refine aN ?_;refine au fun K2 hK2=>?_;refine go ?_;obtain⟨y4,sw,hM⟩:=bind_some hM;refine bf (fu iO.nil (fun S w hs hP=>auL _ w l0 aD r0 ak y4 sw (aM hs) ⟨(kM hs),(kM hs),(kM hs),(kM hs)⟩ (kM hs)) fG (fun r6=>?_));dsimp only[cA,nA];refine om ?_;refine oe (bU (vs:=[sL r6 y4.1,vI y4.2.1,vI y4.2.2])) ?_;refine oe (bU (vs:=[sL r6 y4.1,vI y4.2.1,vI y4.2.2])) ?_;refine oe (bU (vs:=[sL r6 y4.1,vI y4.2.1,vI y4.2.2])) ?_;refine go ?_;refine co hM (fun jr hM=>?_) (fun jr hM=>?_)
 ·refine aR ?_;refine aN ?_;exact aF (aZ hM)
 refine cs hK2 ?_;refine au fun K6 dG=>?_;refine sr ?_;refine oe fC ?_;obtain⟨y8,nT,hM⟩:=bind_some hM;refine cv (fun hs=>ajX _ _ s0 y8 nT (aM hs)) ?_;refine oe iC ?_;refine oc hM (fun tH hM=>?_) (fun tH hM=>?_)
 ·refine aJ ?_;exact aF (aZ hM)
 refine cs dG ?_;refine au fun K9 fH=>?_;refine aJ ?_;refine bI ?_;refine lk hM [3,4,5] (fun aH=>[(10,eI (aH:Int))]) [0] (fun aH=>[]) ?_;clear hM;rintro aK aH hM eO hL1;dsimp only[Z4,cA,nA] at hM ⊢;refine au fun nG gH=>?_;refine go ?_;refine oN hM fun hM=>?_;refine oe gq ?_;refine oc hM (fun mP hM=>?_) (fun mP hM=>?_)
 ·refine cs gH ?_;refine au fun zA nR=>?_;refine bI ?_;refine au fun yu mX=>?_;refine dS _ (List.Sublist.refl _) ?_;refine fa 0 2 ?_;refine fa 2 0 ?_;refine am 4 ?_;refine iQ 5 2 0 (kG r0.Steps ak) hM fun gK uw hM=>?_;refine iQ 8 5 1 (kG l0.Sections aD.2.2.1) hM fun ny hx16 hM=>?_;refine fa 11 1 ?_;refine ay 13 rfl ag8 ?_;refine ay 14 rfl gq ?_;refine bS (mX _ _ ?_);refine co hM (fun hc17 hM=>?_) (fun hc17 hM=>?_)
  · refine aJ ?_;exact aF (aZ hM)
  refine cs nR ?_;refine bg ?_;refine om ?_;refine oP hM fun hM=>?_;refine oa ?_;refine bq (hL1 hM sS rI)
 refine cx fH ?_;dsimp only[ajY] at hM;refine aJ ?_;exact aF (aZ hM)
def MS(r0:aG):Option Int:=
 (idx r0.Steps 0).bind fun x2=>
 some x2.Section
theorem afa(S:aW)(w:World)(r0:aG)(ak:ah.R aG)(y:Int)(hM:MS r0=some y)(hS:sB S w)(oL:ah.ok S w ak r0):
  Calls Tryz.prog 127 #[.agg (xC r0 ak)] w (bM w (vI y)):=by
 refine bF (args:=[_]) Tryz.func127 rfl ((pre_nil hS).start |>.bG oL) rfl ?_;unfold MS at hM;refine sr ?_;refine oB (nV r0 ak) fun b1=>?_;refine aN ?_;refine sr ?_;refine fo 0 ?_;refine ix 2 0 (kG r0.Steps ak) hM fun x2 hx3 hM=>?_;refine aN ?_;exact aF (aZ hM)
def MU(r0:aG):Option Int:=
 aO (aX ((r0.Steps.length:Int)-r0.Overlap))<|
 aO (aX (((r0.Steps.length:Int)-r0.Overlap)-1))<|
 (idx r0.Steps (((r0.Steps.length:Int)-r0.Overlap)-1)).bind fun x4=>
 some x4.Section
theorem afb(S:aW)(w:World)(r0:aG)(ak:ah.R aG)(y:Int)(hM:MU r0=some y)(hS:sB S w)(oL:ah.ok S w ak r0):
  Calls Tryz.prog 128 #[.agg (xC r0 ak)] w (bM w (vI y)):=by
 refine bF (args:=[_]) Tryz.func128 rfl ((pre_nil hS).start |>.bG oL) rfl ?_;unfold MU at hM;refine sr ?_;refine oB (nV r0 ak) fun b1=>?_;refine go ?_;refine oN hM fun hM=>?_;refine oN hM fun hM=>?_;refine ix 2 0 (kG r0.Steps ak) hM fun x4 hx5 hM=>?_;refine aN ?_;exact aF (aZ hM)
def aj4:Unit→Option Int:=fun _=>
 some 0
def VT(x3:Line)(p0:Plan)(l0:Layout)(eU:Nat→Option Int):Nat→Option Int:=fun dI=>
 if decide ((dI:Int)<(x3.bD.length:Int)) then
  ((idx x3.bD (dI:Int)).bind fun nC=>
  aO (aX ((x3.bD.length:Int)-1))<|
  aO (aX ((p0.Routes.length:Int)-1))<|
  (rG nC.aG 0 ((p0.Routes.length:Int)-1)).bind fun y27=>
  aO (!(!(!y27))||aX (p0.bJ-1))<|
  (dH (!(!y27)) default (rG nC.Extra 0 (p0.bJ-1))).bind fun lI=>
  (dH (!((!y27)||(!lI))) default (MV p0 nC.Min nC.Max)).bind fun y32=>
  if ((((!y27)||(!lI))||(!y32))||(decide ((dI:Int)=((x3.bD.length:Int)-1))&&(decide (nC.Min≠0)||decide (nC.Max≠0)))) then
   (some 4)
  else
   ((idx p0.Routes nC.aG).bind fun xq=>
   (idx p0.aP x3.aQ).bind fun Hz=>
   (VE l0 xq Hz).bind fun y39=>
   if decide (y39≠0) then
    (some y39)
   else
    ((dH (decide (0<(dI:Int))) default (idx p0.Routes nC.aG)).bind fun jQ=>
    if decide (0<(dI:Int)) then
    (aO (aX ((dI:Int)-1))<|
    (idx x3.bD ((dI:Int)-1)).bind fun xu=>
    (idx p0.Routes xu.aG).bind fun Xm=>
    (MS jQ).bind fun y51=>
    (MU Xm).bind fun tZ=>
    if (decide (0<(dI:Int))&&decide (y51≠tZ)) then
     (some 11)
    else
     (aO (aX ((dI:Int)+1))<|
     eU (dI+1)))
    else
    (aO (aX ((dI:Int)+1))<|
    eU (dI+1)))))
 else
  (aj4 ())
def aam(p0:Plan)(x3:Line)(l0:Layout):Unit→Option Int:=fun _=>
 aO (aX ((p0.aP.length:Int)-1))<|
 (rG x3.aQ 0 ((p0.aP.length:Int)-1)).bind fun mq=>
 (dH (!(!mq)) default (rG x3.Weight 0 1048576)).bind fun mD=>
 if ((!mq)||(!mD)) then
  (some 4)
 else
  (if decide ((x3.bD.length:Int)=0) then
   (some 1)
  else
   (iter (VT x3 p0 l0) FUEL 0))
def aal(i0:Int)(p0:Plan)(x3:Line)(l0:Layout)(aK:Nat→Option Int):Nat→Option Int:=fun lF=>
 if decide ((lF:Int)<i0) then
  ((idx p0.Lines (lF:Int)).bind fun x10=>
  if decide (x10.Name=x3.Name) then
   (some 5)
  else
   (aO (aX ((lF:Int)+1))<|
   aK (lF+1)))
 else
  (aam p0 x3 l0 ())
def Qr(l0:Layout)(p0:Plan)(i0:Int):Option Int:=
 (idx p0.Lines i0).bind fun x3=>
 (MK x3.Name).bind fun y6=>
 if (!y6) then
  (some 3)
 else
  (iter (aal i0 p0 x3 l0) FUEL 0)
theorem auR(S:aW)(w:World)(l0:Layout)(aD:ah.R Layout)(p0:Plan)(av:ah.R Plan)(i0:Int)(y:Int)(hM:Qr l0 p0 i0=some y)(hS:sB S w)(dQ:ah.ok S w aD l0)(eF:ah.ok S w av p0):
   Calls Tryz.prog 66 #[.agg (jy l0 aD),.agg (jI p0 av),vI i0] w (bM w (vI y)):=by
 refine bF (args:=[_,_,_]) Tryz.func66 rfl ((pre_nil hS).start |>.je dQ|>.jZ eF) rfl ?_;unfold Qr at hM;refine sr ?_;refine oB (iR l0 aD) fun b1=>?_;refine oB (kX p0 av) fun b2=>?_;refine go ?_;refine ixs 4 4 (fun x3=>(mH x3 (av.2.2.1.es i0.toNat))) (kG p0.Lines av.2.2.1) hM fun x3 hx4 hM=>?_;refine oA rfl fun b5=>?_;refine oS b5 (mH x3 (av.2.2.1.es i0.toNat)) ?_;refine on ?_;refine au fun K3 hK3=>?_;refine sr ?_;refine fo 0 ?_;obtain⟨y6,nS,hM⟩:=bind_some hM;refine cv (fun hs=>aeQ _ _ x3.Name y6 nS (aM hs)) ?_;refine oe iC ?_;refine oc hM (fun hc8 hM=>?_) (fun hc8 hM=>?_)
 ·refine aJ ?_;exact aF (aZ hM)
 refine cs hK3 ?_;refine au fun K6 dG=>?_;refine aJ ?_;refine bI ?_;refine lk hM [2,3,4,7] (fun lF=>[(8,eI (lF:Int))]) [] (fun lF=>[]) ?_;clear hM;rintro aK lF hM eO hL1;dsimp only[aal,cA,nA] at hM ⊢;refine au fun K8 gP=>?_;refine go ?_;refine co hM (fun qY hM=>?_) (fun qY hM=>?_)
 ·refine cs gP ?_;refine au fun tC jC=>?_;refine bI ?_;refine au fun nG gH=>?_;refine dS _ (List.Sublist.refl _) ?_;refine fa 0 3 ?_;refine am 2 ?_;refine iQ 3 4 0 (kG p0.Lines av.2.2.1) hM fun x10 AQ hM=>?_;refine fa 6 0 ?_;refine ay 8 rfl xI ?_;refine bS (gH _ _ ?_);refine co hM (fun mP hM=>?_) (fun mP hM=>?_)
  · refine aJ ?_;exact aF (aZ hM)
  refine cs jC ?_;refine bg ?_;refine om ?_;refine oP hM fun hM=>?_;refine oa ?_;refine bq (hL1 hM sS rI)
 refine cx dG ?_;dsimp only[aam] at hM;refine au fun zA nR=>?_;refine go ?_;refine oN hM fun hM=>?_;obtain⟨mq,I4,hM⟩:=bind_some hM;refine cv (fun hs=>Ad _ _ x3.aQ 0 ((p0.aP.length:Int)-1) mq I4 (aM hs)) ?_;refine go ?_;obtain⟨mD,DR,hM⟩:=bind_some hM;refine cg rfl (fun hg hs=>Ad _ _ x3.Weight 0 1048576 mD (cu DR hg) (aM hs)) ?_;refine bY rfl iC ?_;refine oe rT ?_;refine oc hM (fun hc19 hM=>?_) (fun hc19 hM=>?_)
 ·refine aJ ?_;exact aF (aZ hM)
 refine cs nR ?_;refine au fun EB rU=>?_;refine go ?_;refine co hM (fun zN hM=>?_) (fun zN hM=>?_)
 ·refine aJ ?_;exact aF (aZ hM)
 refine cs rU ?_;refine au fun Ca pY=>?_;refine aJ ?_;refine bI ?_;refine lk hM [3,4,7] (fun dI=>[(9,eI (dI:Int))]) [] (fun dI=>[]) ?_;clear hM;rintro eU dI hM xA hL2;dsimp only[VT,cA,nA] at hM ⊢;refine au fun K21 Lb=>?_;refine go ?_;refine co hM (fun hc21 hM=>?_) (fun hc21 hM=>?_)
 ·refine cs Lb ?_;refine au fun K23 IJ=>?_;refine go ?_;obtain⟨nC,YK,hM⟩:=bind_some hM;refine oe (dL 4 ((Sk.elem (Sk.dw (α:=List Line) (r:=av.2.2.1) (x:=p0.Lines) hA) hx4)).kn (iS YK)) ?_;refine oe (Ce (m:=4) (i:=(dI:Int)) (xs:=x3.bD) (y:=nC) (l:=(zY nC)) 0 ((Sk.elem (Sk.dw (α:=List Line) (r:=av.2.2.1) (x:=p0.Lines) hA) hx4)).kn (fun _=>YK)) ?_;refine oA rfl fun vo=>?_;refine oS vo (zY nC) ?_;refine go ?_;refine oN hM fun hM=>?_;refine oe oK ?_;refine aN ?_;refine au fun Rf Dz=>?_;refine go ?_;obtain⟨Sc,hM⟩:=bQ hM;refine oe (pW (hr:=fun hg=>dU Sc)) ?_;obtain⟨y27,hy28,hM⟩:=bind_some hM;refine cv (fun hs=>Ad _ _ nC.aG 0 ((p0.Routes.length:Int)-1) y27 hy28 (aM hs)) ?_;refine go ?_;obtain⟨acy,hM⟩:=bQ hM;refine bY rfl (pW (hr:=fun hg=>dU (yJ acy hg))) ?_;obtain⟨lI,hy31,hM⟩:=bind_some hM;refine cg rfl (fun hg hs=>Ad _ _ nC.Extra 0 (p0.bJ-1) lI (cu hy31 hg) (aM hs)) ?_;refine go ?_;obtain⟨y32,Te,hM⟩:=bind_some hM;refine cg rfl (fun hg hs=>afc _ _ p0 av nC.Min nC.Max y32 (cu Te hg) (aM hs) ⟨(kM hs),(kM hs),(kM hs),(kM hs),(kM hs),(kM hs),(kM hs)⟩) ?_;refine go ?_;refine co hM (fun hc34 hM=>?_) (fun hc34 hM=>?_)
  · refine aJ ?_;exact aF (aZ hM)
  refine cs Dz ?_;refine au fun NI Ay=>?_;refine au fun Rh DC=>?_;refine dS _ (List.Sublist.refl _) ?_;refine ay 0 rfl fC ?_;refine fa 1 2 ?_;refine fa 3 0 ?_;refine kH 5 2 2 (fun xq=>(nV xq (av.2.1.es nC.aG.toNat))) (kG p0.Routes av.2.1) hM fun xq YL hM=>?_;refine fa 7 1 ?_;refine fa 9 1 ?_;refine kH 11 5 5 (fun Hz=>(rD Hz)) (kG p0.aP av.1) hM fun Hz hx38 hM=>?_;obtain⟨y39,Tf,hM⟩:=bind_some hM;refine bT 13 rfl (sV (fun hs=>auM _ _ l0 aD xq (av.2.1.es nC.aG.toNat) Hz y39 Tf (aM hs) ⟨(kM hs),(kM hs),(kM hs),(kM hs)⟩ (Kn.lend ((Sk.elem (Sk.dw (α:=List aG) (r:=av.2.1) (x:=p0.Routes) hA) YL)).kn hs)) ⟨rI,?_⟩);refine ay 14 rfl eX ?_;refine bS (DC _ _ ?_);refine aR ?_;refine oe nQ ?_;refine oc hM (fun Ci hM=>?_) (fun Ci hM=>?_)
  · refine aR ?_;refine aN ?_;exact aF (aZ hM)
  refine cs Ay ?_;refine au fun K33 IK=>?_;refine dS _ (List.Sublist.refl _) ?_;refine am 0 ?_;refine ay 1 rfl vY ?_;refine am 2 ?_;refine dX 3 rfl rfl (aY 2) ?_;refine dX 4 rfl rfl gZ ?_;refine dX 5 rfl rfl (aY 0) ?_;refine dX 6 rfl rfl gZ ?_;obtain⟨jQ,IZ,hM⟩:=bind_some hM;refine dX 7 rfl rfl (dL 2 (kG p0.Routes av.2.1) (fun hg=>let h:=jX (cu IZ hg);⟨h.1,h.2.1⟩)) ?_;refine agE (decide (0<(dI:Int))) (fun jS=>?_) (fun jS=>?_)
  · replace hM:=iT jS hM;have adi:=cu IZ jS;refine xD 131 jS rfl ?_;refine xD 132 jS rfl ?_;refine xD 133 jS rfl ?_;refine xD 134 jS rfl ?_;refine xD 135 jS rfl ?_;refine rP 8 rfl rfl jS (Ce (m:=2) (i:=nC.aG) (xs:=p0.Routes) (y:=jQ) (l:=(nV jQ (av.2.1.es nC.aG.toNat))) 0 (kG p0.Routes av.2.1) (fun _=>adi)) ?_;refine rP 10 rfl rfl jS (aY 2) ?_;refine rP 11 rfl rfl jS gZ ?_;refine rP 12 rfl rfl jS (aY 3) ?_;refine rP 13 rfl rfl jS gZ ?_;refine rP 14 rfl rfl jS dJ ?_;obtain⟨anZ,hM⟩:=bQ hM;refine rP 15 rfl rfl jS (pW (hr:=fun hg=>dU anZ)) ?_;obtain⟨xu,N9,hM⟩:=bind_some hM;refine rP 16 rfl rfl jS (dL 4 ((Sk.elem (Sk.dw (α:=List Line) (r:=av.2.2.1) (x:=p0.Lines) hA) hx4)).kn (iS N9)) ?_;refine rP 17 rfl rfl jS (aY 0) ?_;refine rP 18 rfl rfl jS (dY 0 ((Sk.elem (Sk.dw (α:=List Line) (r:=av.2.2.1) (x:=p0.Lines) hA) hx4)).kn (fun _=>N9)) ?_;obtain⟨Xm,YM,hM⟩:=bind_some hM;refine rP 19 rfl rfl jS (dL 2 (kG p0.Routes av.2.1) (iS YM)) ?_;refine rP 20 rfl rfl jS (Ce (m:=2) (i:=xu.aG) (xs:=p0.Routes) (y:=Xm) (l:=(nV Xm (av.2.1.es xu.aG.toNat))) 0 (kG p0.Routes av.2.1) (fun _=>YM)) ?_;obtain⟨y51,arq,hM⟩:=bind_some hM;refine XE 9 rfl rfl jS (sV (fun hs=>afa _ _ jQ (av.2.1.es nC.aG.toNat) y51 arq (aM hs) (Kn.lend ((Sk.elem (Sk.dw (α:=List aG) (r:=av.2.1) (x:=p0.Routes) hA) adi)).kn hs)) ⟨rI,?_⟩);obtain⟨tZ,Tj,hM⟩:=bind_some hM;refine XE 21 rfl rfl jS (sV (fun hs=>afb _ _ Xm (av.2.1.es xu.aG.toNat) tZ Tj (aM hs) (Kn.lend ((Sk.elem (Sk.dw (α:=List aG) (r:=av.2.1) (x:=p0.Routes) hA) YM)).kn hs)) ⟨rI,?_⟩);refine rP 22 rfl rfl jS nQ ?_;refine ay 23 rfl rR ?_;refine bS (IK _ _ ?_);refine co hM (fun Lg hM=>?_) (fun Lg hM=>?_)
    ·refine aJ ?_;exact aF (aZ hM)
    refine cs IJ ?_;refine bg ?_;refine om ?_;refine oP hM fun hM=>?_;refine oa ?_;refine bq (hL2 hM sS rI)
  replace hM:=iF jS hM;refine pU 8 rfl rfl jS ?_;refine pU 9 rfl rfl jS ?_;refine pU 10 rfl rfl jS ?_;refine pU 11 rfl rfl jS ?_;refine pU 12 rfl rfl jS ?_;refine pU 13 rfl rfl jS ?_;refine pU 14 rfl rfl jS ?_;refine pU 15 rfl rfl jS ?_;refine pU 16 rfl rfl jS ?_;refine pU 17 rfl rfl jS ?_;refine pU 18 rfl rfl jS ?_;refine pU 19 rfl rfl jS ?_;refine pU 20 rfl rfl jS ?_;refine pU 21 rfl rfl jS ?_;refine pU 22 rfl rfl jS ?_;refine ay 23 rfl (Yf jS) ?_;refine bS (IK _ _ ?_);refine RO rfl rfl ?_;refine cs IJ ?_;refine bg ?_;refine om ?_;refine oP hM fun hM=>?_;refine oa ?_;refine bq (hL2 hM sS rI)
 refine cx pY ?_;dsimp only[aj4] at hM;refine aJ ?_;exact aF (aZ hM)
def JE(p0:Plan)(eD:Int)(k0:Int):Option Bool:=
 aO (aX ((p0.Lines.length:Int)-1))<|
 (rG eD 0 ((p0.Lines.length:Int)-1)).bind fun y3=>
 (dH y3 default (idx p0.Lines eD)).bind fun x5=>
 if y3 then
 (aO (aX ((x5.bD.length:Int)-1))<|
 (rG k0 0 ((x5.bD.length:Int)-1)).bind fun iw=>
 some (y3&&iw))
 else
 (some false)
theorem aat(S:aW)(w:World)(p0:Plan)(av:ah.R Plan)(eD:Int)(k0:Int)(y:Bool)(hM:JE p0 eD k0=some y)(hS:sB S w)(eF:ah.ok S w av p0):
   Calls Tryz.prog 69 #[.agg (jI p0 av),vI eD,vI k0] w (bM w (.bool y)):=by
 refine bF (args:=[_,_,_]) Tryz.func69 rfl ((pre_nil hS).start |>.jZ eF) rfl ?_;unfold JE at hM;refine sr ?_;refine oB (kX p0 av) fun b1=>?_;refine go ?_;refine oN hM fun hM=>?_;obtain⟨y3,hy4,hM⟩:=bind_some hM;refine cv (fun hs=>Ad _ _ eD 0 ((p0.Lines.length:Int)-1) y3 hy4 (aM hs)) ?_;refine go ?_;obtain⟨x5,hx6,hM⟩:=bind_some hM;refine bY rfl (dL 4 (kG p0.Lines av.2.2.1) (fun hg=>let h:=jX (cu hx6 hg);⟨h.1,h.2.1⟩)) ?_;refine bY rfl (aY 3) ?_;refine aiE y3 (fun uq=>?_) (fun uq=>?_)
 ·replace hM:=iT uq hM;have Oa:=cu hx6 uq;refine Cx 14 uq rfl ?_;refine Cx 15 uq rfl ?_;refine Cx 16 uq rfl ?_;refine Cx 17 uq rfl ?_;refine Cx 18 uq rfl ?_;refine Cx 19 uq rfl ?_;refine Mf rfl uq ?_;refine oe (dY 3 (kG p0.Lines av.2.2.1) (fun _=>Oa)) ?_;refine Mf rfl uq ?_;refine oe jq ?_;refine Mf rfl uq ?_;refine oN hM fun hM=>?_;refine Mf rfl uq ?_;obtain⟨iw,su,hM⟩:=bind_some hM;refine cv (fun hs=>Ad _ _ k0 0 ((x5.bD.length:Int)-1) iw su (aM hs)) ?_;refine oe rR ?_;refine aN ?_;exact aF (aZ hM)
 replace hM:=iF uq hM;refine Me rfl uq ?_;refine Me rfl uq ?_;refine Me rfl uq ?_;refine Me rfl uq ?_;refine oe (Yf uq) ?_;refine aN ?_;exact aF (aZ hM)
def JB(p0:Plan)(eD:Int)(k0:Int):Option aG:=
 (idx p0.Lines eD).bind fun x3=>
 (idx x3.bD k0).bind fun x5=>
 (idx p0.Routes x5.aG).bind fun x7=>
 some x7
theorem aak(S:aW)(w:World)(p0:Plan)(av:ah.R Plan)(eD:Int)(k0:Int)(y:aG)(hM:JB p0 eD k0=some y)(hS:sB S w)(eF:ah.ok S w av p0):
  Calls Tryz.prog 129 #[.agg (jI p0 av),vI eD,vI k0] w (Post (β:=(ah.R aG)) S [] (fun g=> .agg (xC y g)) (fun g=>[iL y.Steps g]) w):=by
 refine bF (args:=[_,_,_]) Tryz.func129 rfl ((pre_nil hS).start |>.jZ eF) rfl ?_;unfold JB at hM;refine sr ?_;refine oB (kX p0 av) fun b1=>?_;refine oA rfl fun b2=>?_;refine on ?_;refine au fun K2 hK2=>?_;refine kZ [] 14 ?_;refine fz 0 2 ?_;refine fz 2 3 ?_;refine zm 4 ?_;obtain⟨x3,hx4,hM⟩:=bind_some hM;refine aI 5 rfl (dL 4 (kG p0.Lines av.2.2.1) (iS hx4)) ?_;refine aI 6 rfl (aY 3) ?_;refine aI 7 rfl (dY 3 (kG p0.Lines av.2.2.1) (fun _=>hx4)) ?_;refine zm 8 ?_;obtain⟨x5,hx6,hM⟩:=bind_some hM;refine aI 9 rfl (dL 4 ((Sk.elem (Sk.dw (α:=List Line) (r:=av.2.2.1) (x:=p0.Lines) hA) hx4)).kn (iS hx6)) ?_;refine aI 10 rfl (aY 0) ?_;refine aI 11 rfl (dY 0 ((Sk.elem (Sk.dw (α:=List Line) (r:=av.2.2.1) (x:=p0.Lines) hA) hx4)).kn (fun _=>hx6)) ?_;refine ar0 12 2 2 (fun x7=>(nV x7 (av.2.1.es x5.aG.toNat))) (kG p0.Routes av.2.1) hM fun x7 Oa hM=>?_;refine iX rfl (lH (b:=b2) (vs:=(nV x7 (av.2.1.es x5.aG.toNat))) (k:=?_));refine iW (hK2 _ _ ?_);refine iP (fun w hm=>hm.AV (α:=List Step) (r:=(av.2.1.es x5.aG.toNat)) (x:=x7.Steps) (fun S hs=>(Sk.elem (Sk.dw (α:=List aG) (r:=av.2.1) (x:=p0.Routes) hA) Oa) S w hs)) ?_;obtain rfl:=some_inj hM;refine aF (eG (fun w hm=>bR (av.2.1.es x5.aG.toNat) hm rfl))
def Qq(l0:Layout)(p0:Plan)(c0:Change):Option Int:=
 (JE p0 c0.fV c0.iy).bind fun y4=>
 (dH (!(!y4)) default (JE p0 c0.iG c0.kQ)).bind fun y6=>
 (dH (!(((!y4)||(!y6))||decide (c0.fV=c0.iG))) default (MV p0 c0.Min c0.Max)).bind fun y8=>
 (dH (!((((!y4)||(!y6))||decide (c0.fV=c0.iG))||(!y8))) default (rG c0.Weight 0 1048576)).bind fun iw=>
 if (((((!y4)||(!y6))||decide (c0.fV=c0.iG))||(!y8))||(!iw)) then
  (some 4)
 else
  ((JB p0 c0.fV c0.iy).bind fun y13=>
  (MU y13).bind fun fP=>
  (idx l0.Sections fP).bind fun x18=>
  (JB p0 c0.iG c0.kQ).bind fun y20=>
  (MS y20).bind fun y23=>
  (idx l0.Sections y23).bind fun x25=>
  if (decide (x18.nH<0)||decide (x18.nH≠x25.nH)) then
   (some 11)
  else
   (some 0))
theorem auP(S:aW)(w:World)(l0:Layout)(aD:ah.R Layout)(p0:Plan)(av:ah.R Plan)(c0:Change)(y:Int)(hM:Qq l0 p0 c0=some y)(hS:sB S w)(dQ:ah.ok S w aD l0)(eF:ah.ok S w av p0):
   Calls Tryz.prog 67 #[.agg (jy l0 aD),.agg (jI p0 av),.agg (amf c0)] w (bM w (vI y)):=by
 refine bF (args:=[_,_,_]) Tryz.func67 rfl ((pre_nil hS).start |>.je dQ|>.jZ eF) rfl ?_;unfold Qq at hM;refine sr ?_;refine oB (iR l0 aD) fun b1=>?_;refine oB (kX p0 av) fun b2=>?_;refine oB (GD c0) fun b3=>?_;refine aN ?_;refine au fun K2 hK2=>?_;refine go ?_;obtain⟨y4,sw,hM⟩:=bind_some hM;refine cv (fun hs=>aat _ _ p0 av c0.fV c0.iy y4 sw (aM hs) ⟨(kM hs),(kM hs),(kM hs),(kM hs),(kM hs),(kM hs),(kM hs)⟩) ?_;refine go ?_;obtain⟨y6,nS,hM⟩:=bind_some hM;refine cg rfl (fun hg hs=>aat _ _ p0 av c0.iG c0.kQ y6 (cu nS hg) (aM hs) ⟨(kM hs),(kM hs),(kM hs),(kM hs),(kM hs),(kM hs),(kM hs)⟩) ?_;refine go ?_;obtain⟨y8,nT,hM⟩:=bind_some hM;refine cg rfl (fun hg hs=>afc _ _ p0 av c0.Min c0.Max y8 (cu nT hg) (aM hs) ⟨(kM hs),(kM hs),(kM hs),(kM hs),(kM hs),(kM hs),(kM hs)⟩) ?_;refine go ?_;obtain⟨iw,su,hM⟩:=bind_some hM;refine cg rfl (fun hg hs=>Ad _ _ c0.Weight 0 1048576 iw (cu su hg) (aM hs)) ?_;refine bY rfl iC ?_;refine oe rT ?_;refine oc hM (fun mP hM=>?_) (fun mP hM=>?_)
 ·refine aJ ?_;exact aF (aZ hM)
 refine cs hK2 ?_;refine au fun K5 dx=>?_;refine dS _ (List.Sublist.refl _) ?_;refine fa 0 2 ?_;refine ay 2 rfl fC ?_;refine fa 3 0 ?_;refine fa 5 1 ?_;obtain⟨y13,qK,hM⟩:=bind_some hM;refine bT 7 rfl (eH iO.nil (fun S w hs hP=>aak _ w p0 av c0.fV c0.iy y13 qK hs.lt ⟨(kI hs),(kI hs),(kI hs),(kI hs),(kI hs),(kI hs),(kI hs)⟩) (fun mI=>⟨rI,?_⟩));dsimp only[cA,nA];obtain⟨fP,yN,hM⟩:=bind_some hM;refine bT 8 rfl (sV (fun hs=>afb _ _ y13 mI fP yN (aM hs) (kM hs)) ⟨rI,?_⟩);refine iQ 9 5 4 (kG l0.Sections aD.2.2.1) hM fun x18 Lp hM=>?_;refine ay 12 rfl eX ?_;refine bS (dx _ _ ?_);refine au fun K6 dG=>?_;refine dS _ (List.Sublist.refl _) ?_;refine fa 0 2 ?_;refine ay 2 rfl fC ?_;refine fa 3 2 ?_;refine fa 5 3 ?_;obtain⟨y20,yO,hM⟩:=bind_some hM;refine bT 7 rfl (eH iO.nil (fun S w hs hP=>aak _ w p0 av c0.iG c0.kQ y20 yO hs.lt ⟨(kI hs),(kI hs),(kI hs),(kI hs),(kI hs),(kI hs),(kI hs)⟩) (fun Bg=>⟨rI,?_⟩));dsimp only[cA,nA];obtain⟨y23,hy24,hM⟩:=bind_some hM;refine bT 8 rfl (sV (fun hs=>afa _ _ y20 Bg y23 hy24 (aM hs) (kM hs)) ⟨rI,?_⟩);refine iQ 9 5 4 (kG l0.Sections aD.2.2.1) hM fun x25 Gl hM=>?_;refine ay 12 rfl eX ?_;refine bS (dG _ _ ?_);refine au fun K7 gu=>?_;refine go ?_;refine co hM (fun hc27 hM=>?_) (fun hc27 hM=>?_)
 ·refine aJ ?_;exact aF (aZ hM)
 refine cs gu ?_;refine aJ ?_;exact aF (aZ hM)
def aaw(p0:Plan)(x2:Turn):(Str×Int×Int×(List bW)×Str×Int×Int×(List bW))→Option Int:=fun (XB,Rl,XC,I8,XK,Rs,XL,Uh)=>
 aO (aX ((I8.length:Int)-1))<|
 (JB p0 x2.From ((I8.length:Int)-1)).bind fun y22=>
 (MU y22).bind fun y25=>
 (JB p0 x2.To 0).bind fun y27=>
 (MS y27).bind fun lI=>
 if (decide (y25≠lI)||decide (Rl≠Rs)) then
  (some 11)
 else
  (some 0)
def afi(p0:Plan)(x2:Turn):Unit→Option Int:=fun _=>
 (idx p0.Lines x2.From).bind fun pO=>
 (idx p0.Lines x2.To).bind fun xq=>
 aaw p0 x2 (pO.Name,pO.aQ,pO.Weight,pO.bD,xq.Name,xq.aQ,xq.Weight,xq.bD)
def aav(i0:Int)(p0:Plan)(x2:Turn)(aK:Nat→Option Int):Nat→Option Int:=fun lF=>
 if decide ((lF:Int)<i0) then
  ((idx p0.Turns (lF:Int)).bind fun ny=>
  (dH (!(decide (ny.From=x2.From))) default (idx p0.Turns (lF:Int))).bind fun kr=>
  if (decide (ny.From=x2.From)||decide (kr.To=x2.To)) then
   (some 5)
  else
   (aO (aX ((lF:Int)+1))<|
   aK (lF+1)))
 else
  (afi p0 x2 ())
def Qy(p0:Plan)(i0:Int):Option Int:=
 (idx p0.Turns i0).bind fun x2=>
 aO (aX ((p0.Lines.length:Int)-1))<|
 (rG x2.From 0 ((p0.Lines.length:Int)-1)).bind fun y6=>
 aO (!(!(!y6))||aX ((p0.Lines.length:Int)-1))<|
 (dH (!(!y6)) default (rG x2.To 0 ((p0.Lines.length:Int)-1))).bind fun y9=>
 (dH (!((!y6)||(!y9))) default (MV p0 x2.Min x2.Max)).bind fun dR=>
 if (((!y6)||(!y9))||(!dR)) then
  (some 4)
 else
  (iter (aav i0 p0 x2) FUEL 0)
theorem au3(S:aW)(w:World)(p0:Plan)(av:ah.R Plan)(i0:Int)(y:Int)(hM:Qy p0 i0=some y)(hS:sB S w)(eF:ah.ok S w av p0):
   Calls Tryz.prog 68 #[.agg (jI p0 av),vI i0] w (bM w (vI y)):=by
 refine bF (args:=[_,_]) Tryz.func68 rfl ((pre_nil hS).start |>.jZ eF) rfl ?_;unfold Qy at hM;refine sr ?_;refine oB (kX p0 av) fun b1=>?_;refine go ?_;obtain⟨x2,hx3,hM⟩:=bind_some hM;refine oe (dL 4 (kG p0.Turns av.2.2.2.2.1) (iS hx3)) ?_;refine oe (Ce (m:=4) (i:=i0) (xs:=p0.Turns) (y:=x2) (l:=(zZ x2)) 0 (kG p0.Turns av.2.2.2.2.1) (fun _=>hx3)) ?_;refine oA rfl fun b4=>?_;refine oS b4 (zZ x2) ?_;refine on ?_;refine au fun K3 hK3=>?_;refine go ?_;refine oN hM fun hM=>?_;obtain⟨y6,nS,hM⟩:=bind_some hM;refine cv (fun hs=>Ad _ _ x2.From 0 ((p0.Lines.length:Int)-1) y6 nS (aM hs)) ?_;refine go ?_;obtain⟨La,hM⟩:=bQ hM;refine bY rfl (pW (hr:=fun hg=>dU (yJ La hg))) ?_;obtain⟨y9,DL,hM⟩:=bind_some hM;refine cg rfl (fun hg hs=>Ad _ _ x2.To 0 ((p0.Lines.length:Int)-1) y9 (cu DL hg) (aM hs)) ?_;refine go ?_;obtain⟨dR,uy,hM⟩:=bind_some hM;refine cg rfl (fun hg hs=>afc _ _ p0 av x2.Min x2.Max dR (cu uy hg) (aM hs) ⟨(kM hs),(kM hs),(kM hs),(kM hs),(kM hs),(kM hs),(kM hs)⟩) ?_;refine bY rfl iC ?_;refine oe rT ?_;refine oc hM (fun zM hM=>?_) (fun zM hM=>?_)
 ·refine aJ ?_;exact aF (aZ hM)
 refine cs hK3 ?_;refine au fun K6 dG=>?_;refine aJ ?_;refine bI ?_;refine lk hM [1,2,5] (fun lF=>[(6,eI (lF:Int))]) [] (fun lF=>[]) ?_;clear hM;rintro aK lF hM eO hL1;dsimp only[aav,cA,nA] at hM ⊢;refine au fun K8 gP=>?_;refine go ?_;refine co hM (fun yM hM=>?_) (fun yM hM=>?_)
 ·refine cs gP ?_;refine au fun tC jC=>?_;refine bI ?_;refine au fun nG gH=>?_;refine dS _ (List.Sublist.refl _) ?_;refine fa 0 5 ?_;refine am 2 ?_;refine iQ 3 4 0 (kG p0.Turns av.2.2.2.2.1) hM fun ny hx16 hM=>?_;refine fa 6 0 ?_;refine ay 8 rfl oK ?_;refine am 9 ?_;refine dX 10 rfl rfl (aY 5) ?_;refine dX 11 rfl rfl gZ ?_;refine dX 12 rfl rfl dJ ?_;obtain⟨kr,AU,hM⟩:=bind_some hM;refine dX 13 rfl rfl (dL 4 (kG p0.Turns av.2.2.2.2.1) (fun hg=>let h:=jX (cu AU hg);⟨h.1,h.2.1⟩)) ?_;refine dX 14 rfl rfl (aY 1) ?_;refine dX 15 rfl rfl (dY 1 (kG p0.Turns av.2.2.2.2.1) (fun hg=>cu AU hg)) ?_;refine dX 16 rfl rfl (aY 1) ?_;refine dX 17 rfl rfl gZ ?_;refine dX 18 rfl rfl oK ?_;refine ay 19 rfl rT ?_;refine bS (gH _ _ ?_);refine co hM (fun hc19 hM=>?_) (fun hc19 hM=>?_)
  · refine aJ ?_;exact aF (aZ hM)
  refine cs jC ?_;refine bg ?_;refine om ?_;refine oP hM fun hM=>?_;refine oa ?_;refine bq (hL1 hM sS rI)
 refine cx dG ?_;dsimp only[afi] at hM;refine jk (Nat×Nat) y (k:=aaw p0 x2) [2,5] (fun (XB,Rl,XC,I8,XK,Rs,XL,Uh) (XO,XR)=>[(7,eP XO),(8,eP XR)]) [] (fun (XB,Rl,XC,I8,XK,Rs,XL,Uh) (XO,XR)=>[iL I8 (av.2.2.1.es x2.From.toNat),own XO 56 [.string XB.ba,vI Rl,vI XC,sL (av.2.2.1.es x2.From.toNat) I8],iL Uh (av.2.2.1.es x2.To.toNat),own XR 56 [.string XK.ba,vI Rs,vI XL,sL (av.2.2.1.es x2.To.toNat) Uh]]) ?_ ?_
 ·intro zB hJ2;refine dS _ (List.Sublist.refl _) ?_;refine fa 0 3 ?_;refine fa 2 0 ?_;refine kH 4 4 4 (fun pO=>(mH pO (av.2.2.1.es x2.From.toNat))) (kG p0.Lines av.2.2.1) hM fun pO hx34 hM=>?_;refine fa 6 3 ?_;refine fa 8 1 ?_;refine kH 10 4 4 (fun xq=>(mH xq (av.2.2.1.es x2.To.toNat))) (kG p0.Lines av.2.2.1) hM fun xq YL hM=>?_;refine jA 12 13 (⟨_,rfl,rfl,gU rfl (k:=fun Ij=>⟨rI,?_⟩)⟩) (⟨_,rfl,rfl,gU rfl (k:=fun Dq=>⟨rI,?_⟩)⟩)
  · refine aA 13 rfl rfl fun Ik=>?_;refine aS 14 rfl Ij (mH pO (av.2.2.1.es x2.From.toNat)) ?_;refine aS 15 rfl Ik (mH xq (av.2.2.1.es x2.To.toNat)) ?_;refine Ih (fun w hm=>hm.AV (α:=List bW) (r:=(av.2.2.1.es x2.From.toNat)) (x:=pO.bD) (fun S hs=>(Sk.elem (Sk.dw (α:=List Line) (r:=av.2.2.1) (x:=p0.Lines) hA) hx34) S w hs)) ?_;refine Ih (fun w hm=>hm.AV (α:=List bW) (r:=(av.2.2.1.es x2.To.toNat)) (x:=xq.bD) (fun S hs=>(Sk.elem (Sk.dw (α:=List Line) (r:=av.2.2.1) (x:=p0.Lines) hA) YL) S w hs)) ?_;refine bS (hJ2 (Ij,Ik) hM sS rI)
  refine aA 12 rfl rfl fun ED=>?_;refine aS 14 rfl ED (mH pO (av.2.2.1.es x2.From.toNat)) ?_;refine aS 15 rfl Dq (mH xq (av.2.2.1.es x2.To.toNat)) ?_;refine Ih (fun w hm=>hm.AV (α:=List bW) (r:=(av.2.2.1.es x2.From.toNat)) (x:=pO.bD) (fun S hs=>(Sk.elem (Sk.dw (α:=List Line) (r:=av.2.2.1) (x:=p0.Lines) hA) hx34) S w hs)) ?_;refine Ih (fun w hm=>hm.AV (α:=List bW) (r:=(av.2.2.1.es x2.To.toNat)) (x:=xq.bD) (fun S hs=>(Sk.elem (Sk.dw (α:=List Line) (r:=av.2.2.1) (x:=p0.Lines) hA) YL) S w hs)) ?_;refine bS (hJ2 (ED,Dq) hM sS rI)
 clear hM;rintro⟨XB,Rl,XC,I8,XK,Rs,XL,Uh⟩ ⟨XO,XR⟩ hM;dsimp only[aaw,cA,nA] at hM ⊢;refine au fun zA nR=>?_;refine au fun yu mX=>?_;refine dS _ (List.Sublist.refl _) ?_;refine ay 0 rfl fC ?_;refine fa 1 0 ?_;refine fa 3 3 ?_;refine ay 5 rfl jq ?_;obtain⟨acw,hM⟩:=bQ hM;refine ay 6 rfl (pW (hr:=fun hg=>dU acw)) ?_;refine ay 9 rfl fC ?_;refine fa 10 1 ?_;obtain⟨y22,uD,hM⟩:=bind_some hM;refine bT 7 rfl (eH iO.nil (fun S w hs hP=>aak _ w p0 av x2.From ((I8.length:Int)-1) y22 uD hs.lt ⟨(kI hs),(kI hs),(kI hs),(kI hs),(kI hs),(kI hs),(kI hs)⟩) (fun qy=>⟨rI,?_⟩));dsimp only[cA,nA];obtain⟨y25,yP,hM⟩:=bind_some hM;refine bT 8 rfl (sV (fun hs=>afb _ _ y22 qy y25 yP (aM hs) (kM hs)) ⟨rI,?_⟩);obtain⟨y27,hy28,hM⟩:=bind_some hM;refine bT 12 rfl (eH iO.nil (fun S w hs hP=>aak _ w p0 av x2.To 0 y27 hy28 hs.lt ⟨(kI hs),(kI hs),(kI hs),(kI hs),(kI hs),(kI hs),(kI hs)⟩) (fun U1=>⟨rI,?_⟩));dsimp only[cA,nA];obtain⟨lI,hy31,hM⟩:=bind_some hM;refine bT 13 rfl (sV (fun hs=>afa _ _ y27 U1 lI hy31 (aM hs) (kM hs)) ⟨rI,?_⟩);refine ay 14 rfl nQ ?_;refine am 15 ?_;refine dX 16 rfl rfl (aY 1) ?_;refine dX 17 rfl rfl gZ ?_;refine dX 18 rfl rfl (aY 1) ?_;refine dX 19 rfl rfl gZ ?_;refine dX 20 rfl rfl nQ ?_;refine ay 21 rfl rT ?_;refine bS (mX _ _ ?_);refine co hM (fun hc32 hM=>?_) (fun hc32 hM=>?_)
 ·refine aJ ?_;exact aF (aZ hM)
 refine cs nR ?_;refine aJ ?_;exact aF (aZ hM)
def ae7:Unit→Option Int:=fun _=>
 some 0
def aad(p0:Plan)(l0:Layout)(RN:Nat→Option Int):Nat→Option Int:=fun wD=>
 if decide ((wD:Int)<(p0.bA.length:Int)) then
  ((idx p0.bA (wD:Int)).bind fun x55=>
  aO (aX ((l0.aT.length:Int)-1))<|
  (rG x55.From 0 ((l0.aT.length:Int)-1)).bind fun Q7=>
  aO (!(!(!Q7))||aX ((l0.aT.length:Int)-1))<|
  (dH (!(!Q7)) default (rG x55.To 0 ((l0.aT.length:Int)-1))).bind fun HZ=>
  (dH (!(((!Q7)||(!HZ))||decide (x55.From=x55.To))) default (rG x55.Weight 1 1048576)).bind fun y64=>
  if ((((!Q7)||(!HZ))||decide (x55.From=x55.To))||(!y64)) then
   (some 4)
  else
   (aO (aX ((wD:Int)+1))<|
   RN (wD+1)))
 else
  (ae7 ())
def aaj(p0:Plan)(l0:Layout):Unit→Option Int:=fun _=>
 iter (aad p0 l0) FUEL 0
def aac(p0:Plan)(l0:Layout)(RL:Nat→Option Int):Nat→Option Int:=fun wC=>
 if decide ((wC:Int)<(p0.bB.length:Int)) then
  ((idx p0.bB (wC:Int)).bind fun jQ=>
  (JE p0 jQ.mE jQ.lJ).bind fun vR=>
  (dH (!(!vR)) default (JE p0 jQ.mM jQ.lV)).bind fun tY=>
  aO (!(!(((!vR)||(!tY))||(decide (jQ.mE=jQ.mM)&&decide (jQ.lJ=jQ.lV))))||aX (p0.bJ-1))<|
  (dH (!(((!vR)||(!tY))||(decide (jQ.mE=jQ.mM)&&decide (jQ.lJ=jQ.lV)))) default (rG jQ.Offset 0 (p0.bJ-1))).bind fun jw=>
  if ((((!vR)||(!tY))||(decide (jQ.mE=jQ.mM)&&decide (jQ.lJ=jQ.lV)))||(!jw)) then
   (some 4)
  else
   (aO (aX ((wC:Int)+1))<|
   RL (wC+1)))
 else
  (aaj p0 l0 ())
def aai(p0:Plan)(l0:Layout):Unit→Option Int:=fun _=>
 iter (aac p0 l0) FUEL 0
def Z9(p0:Plan)(l0:Layout)(Ir:Nat→Option Int):Nat→Option Int:=fun vC=>
 if decide ((vC:Int)<(p0.Turns.length:Int)) then
  ((Qy p0 (vC:Int)).bind fun BU=>
  if decide (BU≠0) then
   (some BU)
  else
   (aO (aX ((vC:Int)+1))<|
   Ir (vC+1)))
 else
  (aai p0 l0 ())
def aah(p0:Plan)(l0:Layout):Unit→Option Int:=fun _=>
 iter (Z9 p0 l0) FUEL 0
def Z8(p0:Plan)(l0:Layout)(rQ:Nat→Option Int):Nat→Option Int:=fun mQ=>
 if decide ((mQ:Int)<(p0.Changes.length:Int)) then
  ((idx p0.Changes (mQ:Int)).bind fun x30=>
  (Qq l0 p0 x30).bind fun y32=>
  if decide (y32≠0) then
   (some y32)
  else
   (aO (aX ((mQ:Int)+1))<|
   rQ (mQ+1)))
 else
  (aah p0 l0 ())
def aag(p0:Plan)(l0:Layout):Unit→Option Int:=fun _=>
 iter (Z8 p0 l0) FUEL 0
def Z7(p0:Plan)(l0:Layout)(kS:Nat→Option Int):Nat→Option Int:=fun gy=>
 if decide ((gy:Int)<(p0.Lines.length:Int)) then
  ((Qr l0 p0 (gy:Int)).bind fun y25=>
  if decide (y25≠0) then
   (some y25)
  else
   (aO (aX ((gy:Int)+1))<|
   kS (gy+1)))
 else
  (aag p0 l0 ())
def aaf(p0:Plan)(l0:Layout):Unit→Option Int:=fun _=>
 iter (Z7 p0 l0) FUEL 0
def Z6(p0:Plan)(l0:Layout)(eU:Nat→Option Int):Nat→Option Int:=fun gM=>
 if decide ((gM:Int)<(p0.Routes.length:Int)) then
  ((idx p0.Routes (gM:Int)).bind fun x18=>
  (MP l0 x18).bind fun y20=>
  if decide (y20≠0) then
   (some y20)
  else
   (aO (aX ((gM:Int)+1))<|
   eU (gM+1)))
 else
  (aaf p0 l0 ())
def aae(p0:Plan)(l0:Layout):Unit→Option Int:=fun _=>
 iter (Z6 p0 l0) FUEL 0
def Z5(p0:Plan)(l0:Layout)(aK:Nat→Option Int):Nat→Option Int:=fun aH=>
 if decide ((aH:Int)<(p0.aP.length:Int)) then
  ((Qx p0 (aH:Int)).bind fun y13=>
  if decide (y13≠0) then
   (some y13)
  else
   (aO (aX ((aH:Int)+1))<|
   aK (aH+1)))
 else
  (aae p0 l0 ())
def Qg(l0:Layout)(p0:Plan):Option Int:=
 (Jw l0).bind fun y3=>
 if decide (y3≠0) then
  (some 1)
 else
  ((VR p0).bind fun y6=>
  if y6 then
   (some 7)
  else
   ((rG p0.bJ 2 7200).bind fun y9=>
   if (!y9) then
    (some 4)
   else
    (iter (Z5 p0 l0) FUEL 0)))
theorem aj1(S:aW)(w:World)(l0:Layout)(aD:ah.R Layout)(p0:Plan)(av:ah.R Plan)(y:Int)(hM:Qg l0 p0=some y)(hS:sB S w)(dQ:ah.ok S w aD l0)(eF:ah.ok S w av p0):
   Calls Tryz.prog 23 #[.agg (jy l0 aD),.agg (jI p0 av)] w (bM w (vI y)):=by
 refine bF (args:=[_,_]) Tryz.func23 rfl ((pre_nil hS).start |>.je dQ|>.jZ eF) rfl ?_;unfold Qg at hM;refine sr ?_;refine oB (iR l0 aD) fun b1=>?_;refine oB (kX p0 av) fun b2=>?_;refine aN ?_;refine au fun K2 hK2=>?_;refine sr ?_;refine oe fC ?_;obtain⟨y3,hy4,hM⟩:=bind_some hM;refine cv (fun hs=>ZN _ _ l0 aD y3 hy4 (aM hs) ⟨(kM hs),(kM hs),(kM hs),(kM hs)⟩) ?_;refine oe nQ ?_;refine oc hM (fun iH hM=>?_) (fun iH hM=>?_)
 ·refine aJ ?_;exact aF (aZ hM)
 refine cs hK2 ?_;refine au fun K5 dx=>?_;refine sr ?_;refine oe fC ?_;obtain⟨y6,nS,hM⟩:=bind_some hM;refine cv (fun hs=>auQ _ _ p0 av y6 nS (aM hs) ⟨(kM hs),(kM hs),(kM hs),(kM hs),(kM hs),(kM hs),(kM hs)⟩) ?_;refine oc hM (fun hc8 hM=>?_) (fun hc8 hM=>?_)
 ·refine aJ ?_;exact aF (aZ hM)
 refine cs dx ?_;refine au fun K8 gP=>?_;refine sr ?_;refine fo 0 ?_;obtain⟨y9,DL,hM⟩:=bind_some hM;refine cv (fun hs=>Ad _ _ p0.bJ 2 7200 y9 DL (aM hs)) ?_;refine oe iC ?_;refine oc hM (fun rY hM=>?_) (fun rY hM=>?_)
 ·refine aJ ?_;exact aF (aZ hM)
 refine cs gP ?_;refine au fun nG gH=>?_;refine aJ ?_;refine bI ?_;refine lk hM [2,3] (fun aH=>[(5,eI (aH:Int))]) [] (fun aH=>[]) ?_;clear hM;rintro aK aH hM eO hL1;dsimp only[Z5,cA,nA] at hM ⊢;refine au fun zA nR=>?_;refine go ?_;refine co hM (fun mP hM=>?_) (fun mP hM=>?_)
 ·refine cs nR ?_;refine au fun Dn qF=>?_;refine go ?_;obtain⟨y13,qK,hM⟩:=bind_some hM;refine cv (fun hs=>au2 _ _ p0 av (aH:Int) y13 qK (aM hs) ⟨(kM hs),(kM hs),(kM hs),(kM hs),(kM hs),(kM hs),(kM hs)⟩) ?_;refine go ?_;refine co hM (fun rZ hM=>?_) (fun rZ hM=>?_)
  · refine aR ?_;refine aN ?_;exact aF (aZ hM)
  refine cs qF ?_;refine bg ?_;refine om ?_;refine oP hM fun hM=>?_;refine oa ?_;refine bq (hL1 hM sS rI)
 refine cx gH ?_;dsimp only[aae] at hM;refine au fun Ca pY=>?_;refine aJ ?_;refine bI ?_;refine lk hM [2,3] (fun gM=>[(7,eI (gM:Int))]) [] (fun gM=>[]) ?_;clear hM;rintro eU gM hM xA hL2;dsimp only[Z6,cA,nA] at hM ⊢;refine au fun K21 Lb=>?_;refine go ?_;refine co hM (fun hc17 hM=>?_) (fun hc17 hM=>?_)
 ·refine cs Lb ?_;refine au fun K23 IJ=>?_;refine bI ?_;refine au fun Xo Gg=>?_;refine dS _ (List.Sublist.refl _) ?_;refine ay 0 rfl fC ?_;refine fa 1 2 ?_;refine am 3 ?_;refine kH 4 2 2 (fun x18=>(nV x18 (av.2.1.es (gM:Int).toNat))) (kG p0.Routes av.2.1) hM fun x18 Lp hM=>?_;obtain⟨y20,yO,hM⟩:=bind_some hM;refine bT 6 rfl (sV (fun hs=>ajW _ _ l0 aD x18 (av.2.1.es (gM:Int).toNat) y20 yO (aM hs) ⟨(kM hs),(kM hs),(kM hs),(kM hs)⟩ (Kn.lend ((Sk.elem (Sk.dw (α:=List aG) (r:=av.2.1) (x:=p0.Routes) hA) Lp)).kn hs)) ⟨rI,?_⟩);refine ay 7 rfl eX ?_;refine bS (Gg _ _ ?_);refine aR ?_;refine oe nQ ?_;refine oc hM (fun hc22 hM=>?_) (fun hc22 hM=>?_)
  · refine aR ?_;refine aN ?_;exact aF (aZ hM)
  refine cs IJ ?_;refine bg ?_;refine om ?_;refine oP hM fun hM=>?_;refine oa ?_;refine bq (hL2 hM sS rI)
 refine cx pY ?_;dsimp only[aaf] at hM;refine au fun Xp Gh=>?_;refine aJ ?_;refine bI ?_;refine lk hM [2,3] (fun gy=>[(9,eI (gy:Int))]) [] (fun gy=>[]) ?_;clear hM;rintro kS gy hM H8 hL3;dsimp only[Z7,cA,nA] at hM ⊢;refine au fun NI Ay=>?_;refine go ?_;refine co hM (fun hc24 hM=>?_) (fun hc24 hM=>?_)
 ·refine cs Ay ?_;refine au fun K31 Sg=>?_;refine go ?_;obtain⟨y25,yP,hM⟩:=bind_some hM;refine cv (fun hs=>auR _ _ l0 aD p0 av (gy:Int) y25 yP (aM hs) ⟨(kM hs),(kM hs),(kM hs),(kM hs)⟩ ⟨(kM hs),(kM hs),(kM hs),(kM hs),(kM hs),(kM hs),(kM hs)⟩) ?_;refine go ?_;refine co hM (fun hc27 hM=>?_) (fun hc27 hM=>?_)
  · refine aR ?_;refine aN ?_;exact aF (aZ hM)
  refine cs Sg ?_;refine bg ?_;refine om ?_;refine oP hM fun hM=>?_;refine oa ?_;refine bq (hL3 hM sS rI)
 refine cx Gh ?_;dsimp only[aag] at hM;refine au fun K35 acC=>?_;refine aJ ?_;refine bI ?_;refine lk hM [2,3] (fun mQ=>[(11,eI (mQ:Int))]) [] (fun mQ=>[]) ?_;clear hM;rintro rQ mQ hM Xt hL4;dsimp only[Z8,cA,nA] at hM ⊢;refine au fun K37 Sm=>?_;refine go ?_;refine co hM (fun hc29 hM=>?_) (fun hc29 hM=>?_)
 ·refine cs Sm ?_;refine au fun K39 acE=>?_;refine bI ?_;refine au fun K40 acF=>?_;refine dS _ (List.Sublist.refl _) ?_;refine ay 0 rfl fC ?_;refine ay 1 rfl fC ?_;refine fa 2 4 ?_;refine am 4 ?_;refine kH 5 7 7 (fun x30=>(GD x30)) (kG p0.Changes av.2.2.2.1) hM fun x30 hx31 hM=>?_;obtain⟨y32,Te,hM⟩:=bind_some hM;refine bT 7 rfl (sV (fun hs=>auP _ _ l0 aD p0 av x30 y32 Te (aM hs) ⟨(kM hs),(kM hs),(kM hs),(kM hs)⟩ ⟨(kM hs),(kM hs),(kM hs),(kM hs),(kM hs),(kM hs),(kM hs)⟩) ⟨rI,?_⟩);refine ay 8 rfl eX ?_;refine bS (acF _ _ ?_);refine aR ?_;refine oe nQ ?_;refine oc hM (fun hc34 hM=>?_) (fun hc34 hM=>?_)
  · refine aR ?_;refine aN ?_;exact aF (aZ hM)
  refine cs acE ?_;refine bg ?_;refine om ?_;refine oP hM fun hM=>?_;refine oa ?_;refine bq (hL4 hM sS rI)
 refine cx acC ?_;dsimp only[aah] at hM;refine au fun K43 aod=>?_;refine aJ ?_;refine bI ?_;refine lk hM [2,3] (fun vC=>[(13,eI (vC:Int))]) [] (fun vC=>[]) ?_;clear hM;rintro Ir vC hM KL5 hL5;dsimp only[Z9,cA,nA] at hM ⊢;refine au fun K45 aof=>?_;refine go ?_;refine co hM (fun acR hM=>?_) (fun acR hM=>?_)
 ·refine cs aof ?_;refine au fun K47 aoh=>?_;refine go ?_;obtain⟨BU,hy38,hM⟩:=bind_some hM;refine cv (fun hs=>au3 _ _ p0 av (vC:Int) BU hy38 (aM hs) ⟨(kM hs),(kM hs),(kM hs),(kM hs),(kM hs),(kM hs),(kM hs)⟩) ?_;refine go ?_;refine co hM (fun hc39 hM=>?_) (fun hc39 hM=>?_)
  · refine aR ?_;refine aN ?_;exact aF (aZ hM)
  refine cs aoh ?_;refine bg ?_;refine om ?_;refine oP hM fun hM=>?_;refine oa ?_;refine bq (hL5 hM sS rI)
 refine cx aod ?_;dsimp only[aai] at hM;refine au fun K51 aok=>?_;refine aJ ?_;refine bI ?_;refine lk hM [2,3] (fun wC=>[(15,eI (wC:Int))]) [] (fun wC=>[]) ?_;clear hM;rintro RL wC hM KL6 hL6;dsimp only[aac,cA,nA] at hM ⊢;refine au fun K53 aom=>?_;refine go ?_;refine co hM (fun Ci hM=>?_) (fun Ci hM=>?_)
 ·refine cs aom ?_;refine au fun K55 aon=>?_;refine go ?_;refine ixs 5 5 (fun jQ=>(Jh jQ)) (kG p0.bB av.2.2.2.2.2.1) hM fun jQ IZ hM=>?_;refine oA rfl fun XI=>?_;refine oS XI (Jh jQ) ?_;refine go ?_;obtain⟨vR,Tg,hM⟩:=bind_some hM;refine cv (fun hs=>aat _ _ p0 av jQ.mE jQ.lJ vR Tg (aM hs) ⟨(kM hs),(kM hs),(kM hs),(kM hs),(kM hs),(kM hs),(kM hs)⟩) ?_;refine go ?_;obtain⟨tY,Ti,hM⟩:=bind_some hM;refine cg rfl (fun hg hs=>aat _ _ p0 av jQ.mM jQ.lV tY (cu Ti hg) (aM hs) ⟨(kM hs),(kM hs),(kM hs),(kM hs),(kM hs),(kM hs),(kM hs)⟩) ?_;refine go ?_;obtain⟨an0,hM⟩:=bQ hM;refine bY rfl (pW (hr:=fun hg=>dU (yJ an0 hg))) ?_;obtain⟨jw,Lv,hM⟩:=bind_some hM;refine cg rfl (fun hg hs=>Ad _ _ jQ.Offset 0 (p0.bJ-1) jw (cu Lv hg) (aM hs)) ?_;refine bY rfl iC ?_;refine oe rT ?_;refine oc hM (fun acT hM=>?_) (fun acT hM=>?_)
  · refine aJ ?_;exact aF (aZ hM)
  refine cs aon ?_;refine bg ?_;refine om ?_;refine oP hM fun hM=>?_;refine oa ?_;refine bq (hL6 hM sS rI)
 refine cx aok ?_;dsimp only[aaj] at hM;refine au fun K59 aoo=>?_;refine aJ ?_;refine bI ?_;refine lk hM [2,3] (fun wD=>[(17,eI (wD:Int))]) [] (fun wD=>[]) ?_;clear hM;rintro RN wD hM KL7 hL7;dsimp only[aad,cA,nA] at hM ⊢;refine au fun K61 aop=>?_;refine go ?_;refine co hM (fun ao5 hM=>?_) (fun ao5 hM=>?_)
 ·refine cs aop ?_;refine au fun K63 aoq=>?_;refine go ?_;refine ixs 3 3 (fun x55=>(Jg x55)) (kG p0.bA av.2.2.2.2.2.2) hM fun x55 axM hM=>?_;refine oA rfl fun b57=>?_;refine oS b57 (Jg x55) ?_;refine go ?_;refine oN hM fun hM=>?_;obtain⟨Q7,arv,hM⟩:=bind_some hM;refine cv (fun hs=>Ad _ _ x55.From 0 ((l0.aT.length:Int)-1) Q7 arv (aM hs)) ?_;refine go ?_;obtain⟨an3,hM⟩:=bQ hM;refine bY rfl (pW (hr:=fun hg=>dU (yJ an3 hg))) ?_;obtain⟨HZ,adq,hM⟩:=bind_some hM;refine cg rfl (fun hg hs=>Ad _ _ x55.To 0 ((l0.aT.length:Int)-1) HZ (cu adq hg) (aM hs)) ?_;refine go ?_;obtain⟨y64,arw,hM⟩:=bind_some hM;refine cg rfl (fun hg hs=>Ad _ _ x55.Weight 1 1048576 y64 (cu arw hg) (aM hs)) ?_;refine bY rfl iC ?_;refine oe rT ?_;refine oc hM (fun apa hM=>?_) (fun apa hM=>?_)
  · refine aJ ?_;exact aF (aZ hM)
  refine cs aoq ?_;refine bg ?_;refine om ?_;refine oP hM fun hM=>?_;refine oa ?_;refine bq (hL7 hM sS rI)
 refine cx aoo ?_;dsimp only[ae7] at hM;refine aJ ?_;exact aF (aZ hM)
end Go.Proofs.YtcalibhfgdncaaaGreatDoor

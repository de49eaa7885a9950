/- Functions: models, proved of the code. -/
import Derived.Test.YtcalibhfgdncaaaGreatDoorYc
namespace Go.Proofs.YtcalibhfgdncaaaGreatDoor
open Go.Dc Go.RowKit
attribute [local irreducible] CW OW AW AZ Ev
set_option maxHeartbeats 0
set_option maxRecDepth 10000
set_option linter.all false
def PS(s_1:Str)(gB:Int)(aK:(Int×Str)→Option Str):Int→Option Str:=fun F9=>
 aO (aX (F9+1))<|
 (ji (⟨[48,49,50,51,52,53,54,55,56,57]⟩:Str) F9 (F9+1)).bind fun q7=>
 (dM q7 s_1).bind fun q9=>
 aO (decide (10≠0)&&aX (gB.tdiv 10))<|
 aK ((gB.tdiv 10),q9)
def Vj:Str→Option Str:=fun Ep=>
 some Ep
def ZO(n0:Int)(s_1:Str):Unit→Option Str:=fun _=>
 if decide (n0<0) then
  ((dM (⟨[45]⟩:Str) s_1).bind fun Mx=>
  Vj Mx)
 else
  (Vj s_1)
def PO(n0:Int)(aK:(Int×Str)→Option Str):(Int×Str)→Option Str:=fun (gB,s_1)=>
 if decide (gB≠0) then
  (if decide ((gB.tmod 10)<0) then
   (aO (aX (-(gB.tmod 10)))<|
   PS s_1 gB aK (-(gB.tmod 10)))
  else
   (PS s_1 gB aK (gB.tmod 10)))
 else
  (ZO n0 s_1 ())
def GQ(n0:Int):Option Str:=
 if (decide (0≤n0)&&decide (n0<10)) then
  (aO (aX (n0+1))<|
  (ji (⟨[48,49,50,51,52,53,54,55,56,57]⟩:Str) n0 (n0+1)).bind fun q3=>
  some q3)
 else
  (iter (PO n0) FUEL (n0,(⟨[]⟩:Str)))
theorem ZP(S:aW)(w:World)(n0:Int)(y:Str)(hM:GQ n0=some y)(hS:sB S w):
   Calls Tryz.prog 94 #[vI n0] w (bM w (.string y.ba)):=by
 refine bF (args:=[_]) Tryz.func94 rfl ((pre_nil hS).start) rfl ?_;unfold GQ at hM;refine aJ ?_;refine au fun K2 hK2=>?_;refine go ?_;refine co hM (fun hc1 hM=>?_) (fun hc1 hM=>?_)
 ·refine aR ?_;refine om ?_;refine oP hM fun hM=>?_;obtain⟨q3,hq4,hM⟩:=bind_some hM;refine oe (vZ (ol:=some (.i64,n0)) (oh:=some (.i64,(n0+1))) (fun _=>hq4)) ?_;refine aN ?_;exact aF (aZ hM)
 refine cs hK2 ?_;refine go ?_;refine au fun K7 gu=>?_;refine bI ?_;refine lk hM [4] (fun (gB,s_1)=>[(0,eI gB),(3,.v (.string s_1.ba))]) [] (fun (gB,s_1)=>[]) ?_;clear hM;rintro aK ⟨gB,s_1⟩ hM eO hL1;dsimp only[PO,cA,nA] at hM ⊢;refine au fun K8 gP=>?_;refine aR ?_;refine oe nQ ?_;refine oc hM (fun iH hM=>?_) (fun iH hM=>?_)
 ·refine cs gP ?_;refine bI ?_;refine aR ?_;refine oe Au ?_;refine aN ?_;refine jl y (k:=PS s_1 gB aK) [0,3,4] (fun F9=>[(5,eI F9)]) [] (fun F9=>[]) ?_ ?_
  · intro zB hJ2;refine aR ?_;refine oe gq ?_;refine oc hM (fun mP hM=>?_) (fun mP hM=>?_)
    ·refine bg ?_;refine om ?_;obtain⟨acr,hM⟩:=bQ hM;refine oe (Yj (hr:=fun hg=>dU acr)) ?_;refine oa ?_;refine bq (hJ2 hM sS rI)
    refine gG (hJ2 hM sS rI)
  clear hM;rintro F9 hM;dsimp only[PS,cA,nA] at hM ⊢;refine aR ?_;refine om ?_;refine oP hM fun hM=>?_;obtain⟨q7,hq8,hM⟩:=bind_some hM;refine oe (vZ (ol:=some (.i64,F9)) (oh:=some (.i64,(F9+1))) (fun _=>hq8)) ?_;refine om ?_;obtain⟨q9,Lj,hM⟩:=bind_some hM;refine oe (eB (fun _=>Lj)) ?_;refine aN ?_;refine bg ?_;refine om ?_;obtain⟨anN,hM⟩:=bQ hM;refine oe (ano (hr:=fun hg=>aus anN)) ?_;refine oa ?_;refine bq (hL1 hM sS rI)
 refine cx gu ?_;dsimp only[ZO] at hM;refine jl y (k:=Vj) [] (fun Ep=>[(3,.v (.string Ep.ba))]) [] (fun Ep=>[]) ?_ ?_
 ·intro FR hJ3;refine aR ?_;refine oc hM (fun yM hM=>?_) (fun yM hM=>?_)
  · refine bg ?_;refine om ?_;obtain⟨Mx,ac6,hM⟩:=bind_some hM;refine oe (eB (fun _=>ac6)) ?_;refine oa ?_;refine bq (hJ3 hM sS rI)
  refine gG (hJ3 hM sS rI)
 clear hM;rintro Ep hM;dsimp only[Vj,cA,nA] at hM ⊢;refine aR ?_;refine aN ?_;exact aF (aZ hM)
def uN(n0:Int):Option Str:=
 (GQ n0).bind fun y1=>
 some y1
theorem zf(S:aW)(w:World)(n0:Int)(y:Str)(hM:uN n0=some y)(hS:sB S w):
  Calls Tryz.prog 40 #[vI n0] w (bM w (.string y.ba)):=by
 refine bF (args:=[_]) Tryz.func40 rfl ((pre_nil hS).start) rfl ?_;unfold uN at hM;refine aJ ?_;refine aR ?_;obtain⟨y1,hy2,hM⟩:=bind_some hM;refine cv (fun hs=>ZP _ _ n0 y1 hy2 (aM hs)) ?_;refine aN ?_;exact aF (aZ hM)
def Qv(aH:Nat)(aK:(Str×Nat)→Option Str):Str→Option Str:=fun WC=>
 aO (aX ((aH:Int)+1))<|
 aK (WC,aH+1)
def Qw:Str→Option Str:=fun Ep=>
 (dM Ep (⟨[10]⟩:Str)).bind fun UY=>
 some UY
def aff(r0:aG)(s_1:Str):Unit→Option Str:=fun _=>
 if decide (0<r0.Overlap) then
  ((GQ r0.Overlap).bind fun y23=>
  (dM (⟨[32,111,118,101,114,108,97,112,32]⟩:Str) y23).bind fun q25=>
  (dM s_1 q25).bind fun UZ=>
  Qw UZ)
 else
  (Qw s_1)
def V9(r0:aG)(l0:Layout)(aK:(Str×Nat)→Option Str):(Str×Nat)→Option Str:=fun (s_1,aH)=>
 if decide ((aH:Int)<(r0.Steps.length:Int)) then
  ((idx r0.Steps (aH:Int)).bind fun x5=>
  (idx l0.Sections x5.Section).bind fun x7=>
  (dM (⟨[32]⟩:Str) x7.Name).bind fun q9=>
  (dM s_1 q9).bind fun q11=>
  (idx r0.Steps (aH:Int)).bind fun gK=>
  if decide (gK.Dir=0) then
   ((dM q11 (⟨[32,117,112]⟩:Str)).bind fun q16=>
   Qv aH aK q16)
  else
   ((dM q11 (⟨[32,100,111,119,110]⟩:Str)).bind fun UW=>
   Qv aH aK UW))
 else
  (aff r0 s_1 ())
def Wh(l0:Layout)(r0:aG):Option Str:=
 iter (V9 r0 l0) FUEL ((⟨[114,111,117,116,101]⟩:Str),0)
theorem au1(S:aW)(w:World)(l0:Layout)(aD:ah.R Layout)(r0:aG)(ak:ah.R aG)(y:Str)(hM:Wh l0 r0=some y)(hS:sB S w)(dQ:ah.ok S w aD l0)(oL:ah.ok S w ak r0):
   Calls Tryz.prog 41 #[.agg (jy l0 aD),.agg (xC r0 ak)] w (bM w (.string y.ba)):=by
 refine bF (args:=[_,_]) Tryz.func41 rfl ((pre_nil hS).start |>.je dQ|>.bG oL) rfl ?_;unfold Wh at hM;refine sr ?_;refine oB (iR l0 aD) fun b1=>?_;refine oB (nV r0 ak) fun b2=>?_;refine aN ?_;refine aJ ?_;refine au fun K3 hK3=>?_;refine aJ ?_;refine bI ?_;refine lk hM [2,3] (fun (s_1,aH)=>[(5,.v (.string s_1.ba)),(6,eI (aH:Int))]) [] (fun (s_1,aH)=>[]) ?_;clear hM;rintro aK ⟨s_1,aH⟩ hM eO hL1;dsimp only[V9,cA,nA] at hM ⊢;refine au fun K5 dx=>?_;refine go ?_;refine co hM (fun hc3 hM=>?_) (fun hc3 hM=>?_)
 ·refine cs dx ?_;refine jl y (k:=Qv aH aK) [2,3,6] (fun WC=>[(5,.v (.string WC.ba))]) [] (fun WC=>[]) ?_ ?_
  · intro zB hJ2;refine bI ?_;refine au fun K7 gu=>?_;refine dS _ (List.Sublist.refl _) ?_;refine am 0 ?_;refine fa 1 2 ?_;refine fa 3 0 ?_;refine am 5 ?_;refine iQ 6 2 0 (kG r0.Steps ak) hM fun x5 hx6 hM=>?_;refine iQ 9 5 0 (kG l0.Sections aD.2.2.1) hM fun x7 Oa hM=>?_;obtain⟨q9,Lj,hM⟩:=bind_some hM;refine ay 12 rfl (eB (fun _=>Lj)) ?_;obtain⟨q11,hq12,hM⟩:=bind_some hM;refine ay 13 rfl (eB (fun _=>hq12)) ?_;refine ay 14 rfl eX ?_;refine bS (gu _ _ ?_);refine sr ?_;refine fo 0 ?_;refine om ?_;obtain⟨gK,uw,hM⟩:=bind_some hM;refine oe (dL 2 (kG r0.Steps ak) (iS uw)) ?_;refine oe (aY 1) ?_;refine oe (dY 1 (kG r0.Steps ak) (fun _=>uw)) ?_;refine oe oK ?_;refine oc hM (fun rZ hM=>?_) (fun rZ hM=>?_)
    ·refine bg ?_;refine om ?_;obtain⟨q16,ac7,hM⟩:=bind_some hM;refine oe (eB (fun _=>ac7)) ?_;refine oa ?_;refine bq (hJ2 hM sS rI)
    refine bg ?_;refine om ?_;obtain⟨UW,ac8,hM⟩:=bind_some hM;refine oe (eB (fun _=>ac8)) ?_;refine oa ?_;refine bq (hJ2 hM sS rI)
  clear hM;rintro WC hM;dsimp only[Qv,cA,nA] at hM ⊢;refine bg ?_;refine om ?_;refine oP hM fun hM=>?_;refine oa ?_;refine bq (hL1 hM sS rI)
 refine cx hK3 ?_;dsimp only[aff] at hM;refine jl y (k:=Qw) [] (fun Ep=>[(5,.v (.string Ep.ba))]) [0,0,0,0,0,0,0] (fun Ep=>[]) ?_ ?_
 ·intro FR hJ3;refine go ?_;refine co hM (fun hc22 hM=>?_) (fun hc22 hM=>?_)
  · refine bg ?_;refine om ?_;refine fo 1 ?_;obtain⟨y23,hy24,hM⟩:=bind_some hM;refine cv (fun hs=>ZP _ _ r0.Overlap y23 hy24 (aM hs)) ?_;obtain⟨q25,aqu,hM⟩:=bind_some hM;refine oe (eB (fun _=>aqu)) ?_;obtain⟨UZ,ada,hM⟩:=bind_some hM;refine oe (eB (fun _=>ada)) ?_;refine oa ?_;refine bq (hJ3 hM sS rI)
  refine gG (hJ3 hM sS rI)
 clear hM;rintro Ep hM;dsimp only[Qw,cA,nA] at hM ⊢;refine aR ?_;obtain⟨UY,ac9,hM⟩:=bind_some hM;refine oe (eB (fun _=>ac9)) ?_;refine aN ?_;exact aF (aZ hM)
def MW(kU:Int)(hi0:Int):Option Str:=
 (GQ kU).bind fun y1=>
 (dM y1 (⟨[46,46]⟩:Str)).bind fun q3=>
 (GQ hi0).bind fun y5=>
 (dM q3 y5).bind fun q7=>
 some q7
theorem afg(S:aW)(w:World)(kU:Int)(hi0:Int)(y:Str)(hM:MW kU hi0=some y)(hS:sB S w):
  Calls Tryz.prog 42 #[vI kU,vI hi0] w (bM w (.string y.ba)):=by
 refine bF (args:=[_,_]) Tryz.func42 rfl ((pre_nil hS).start) rfl ?_;unfold MW at hM;refine aJ ?_;refine aR ?_;obtain⟨y1,hy2,hM⟩:=bind_some hM;refine cv (fun hs=>ZP _ _ kU y1 hy2 (aM hs)) ?_;obtain⟨q3,hq4,hM⟩:=bind_some hM;refine oe (eB (fun _=>hq4)) ?_;refine om ?_;obtain⟨y5,jW,hM⟩:=bind_some hM;refine cv (fun hs=>ZP _ _ hi0 y5 jW (aM hs)) ?_;obtain⟨q7,hq8,hM⟩:=bind_some hM;refine oe (eB (fun _=>hq8)) ?_;refine aN ?_;exact aF (aZ hM)
def Qm(o9:Nat)(rQ:(Str×Nat)→Option (Str×Int)):Str→Option (Str×Int):=fun WE=>
 (dM WE (⟨[10]⟩:Str)).bind fun q94=>
 aO (aX ((o9:Int)+1))<|
 rQ (q94,o9+1)
def ae8(gy:Nat)(kS:(Str×Nat)→Option (Str×Int))(JR:Str):Unit→Option (Str×Int):=fun _=>
 aO (aX ((gy:Int)+1))<|
 kS (JR,gy+1)
def Qi(oV:Line)(gy:Nat)(kS:(Str×Nat)→Option (Str×Int))(rQ:(Str×Nat)→Option (Str×Int)):(Str×Nat)→Option (Str×Int):=fun (JR,o9)=>
 if decide ((o9:Int)<(oV.bD.length:Int)) then
  ((idx oV.bD (o9:Int)).bind fun FN=>
  (idx oV.bD (o9:Int)).bind fun x80=>
  (uN FN.aG).bind fun FQ=>
  (dM (⟨[114,105,100,101,32]⟩:Str) FQ).bind fun q84=>
  (dM q84 (⟨[32]⟩:Str)).bind fun q86=>
  (uN x80.Extra).bind fun Kz=>
  (dM q86 Kz).bind fun q90=>
  (dM JR q90).bind fun q92=>
  (idx oV.bD (o9:Int)).bind fun x97=>
  if decide (0<x97.Max) then
   ((idx oV.bD (o9:Int)).bind fun x100=>
   (idx oV.bD (o9:Int)).bind fun x102=>
   (MW x100.Min x102.Max).bind fun y104=>
   (dM (⟨[32]⟩:Str) y104).bind fun ai0=>
   (dM q92 ai0).bind fun ai1=>
   Qm o9 rQ ai1)
  else
   (Qm o9 rQ q92))
 else
  (ae8 gy kS JR ())
def aj2(JX:Str):Unit→Option (Str×Int):=fun _=>
 some (JX,0)
def VN(p0:Plan)(l0:Layout)(agR:(Str×Nat)→Option (Str×Int)):(Str×Nat)→Option (Str×Int):=fun (JX,I6)=>
 if decide ((I6:Int)<(p0.bA.length:Int)) then
  ((idx p0.bA (I6:Int)).bind fun Kl=>
  (idx l0.aT Kl.From).bind fun alK=>
  (dM (⟨[100,101,109,97,110,100,32]⟩:Str) alK).bind fun ajx=>
  (dM ajx (⟨[32]⟩:Str)).bind fun ajy=>
  (idx l0.aT Kl.To).bind fun alL=>
  (dM ajy alL).bind fun ajz=>
  (dM ajz (⟨[32]⟩:Str)).bind fun ajA=>
  (uN Kl.Weight).bind fun af4=>
  (dM ajA af4).bind fun ajB=>
  (dM ajB (⟨[10]⟩:Str)).bind fun ajC=>
  (dM JX ajC).bind fun ajD=>
  aO (aX ((I6:Int)+1))<|
  agR (ajD,I6+1))
 else
  (aj2 JX ())
def Qp(p0:Plan)(l0:Layout)(JW:Str):Unit→Option (Str×Int):=fun _=>
 iter (VN p0 l0) FUEL (JW,0)
def VL(p0:Plan)(l0:Layout)(RN:(Str×Nat)→Option (Str×Int)):(Str×Nat)→Option (Str×Int):=fun (JW,wD)=>
 if decide ((wD:Int)<(p0.bB.length:Int)) then
  ((idx p0.bB (wD:Int)).bind fun Dk=>
  (idx p0.Lines Dk.mE).bind fun alI=>
  (dM (⟨[115,121,110,99,32]⟩:Str) alI.Name).bind fun ajm=>
  (dM ajm (⟨[32]⟩:Str)).bind fun ajn=>
  (idx p0.Lines Dk.mM).bind fun alJ=>
  (uN Dk.lJ).bind fun af0=>
  (dM ajn af0).bind fun ajo=>
  (dM ajo (⟨[32]⟩:Str)).bind fun ajp=>
  (dM ajp alJ.Name).bind fun ajq=>
  (dM ajq (⟨[32]⟩:Str)).bind fun ajr=>
  (uN Dk.lV).bind fun af2=>
  (dM ajr af2).bind fun ajs=>
  (dM ajs (⟨[32]⟩:Str)).bind fun ajt=>
  (uN Dk.Offset).bind fun af3=>
  (dM ajt af3).bind fun aju=>
  (dM aju (⟨[10]⟩:Str)).bind fun ajv=>
  (dM JW ajv).bind fun ajw=>
  aO (aX ((wD:Int)+1))<|
  RN (ajw,wD+1))
 else
  (Qp p0 l0 JW ())
def Qo(p0:Plan)(l0:Layout)(JV:Str):Unit→Option (Str×Int):=fun _=>
 iter (VL p0 l0) FUEL (JV,0)
def VK(p0:Plan)(l0:Layout)(RL:(Str×Nat)→Option (Str×Int)):(Str×Nat)→Option (Str×Int):=fun (JV,wC)=>
 if decide ((wC:Int)<(p0.Turns.length:Int)) then
  ((idx p0.Turns (wC:Int)).bind fun FL=>
  (idx p0.Lines FL.From).bind fun x158=>
  (dM (⟨[116,117,114,110,32]⟩:Str) x158.Name).bind fun ajf=>
  (dM ajf (⟨[32]⟩:Str)).bind fun ajg=>
  (idx p0.Lines FL.To).bind fun alH=>
  (dM ajg alH.Name).bind fun ajh=>
  (dM ajh (⟨[32]⟩:Str)).bind fun aji=>
  (MW FL.Min FL.Max).bind fun afZ=>
  (dM aji afZ).bind fun ajj=>
  (dM ajj (⟨[10]⟩:Str)).bind fun ajk=>
  (dM JV ajk).bind fun ajl=>
  aO (aX ((wC:Int)+1))<|
  RL (ajl,wC+1))
 else
  (Qo p0 l0 JV ())
def Qn(p0:Plan)(l0:Layout)(JU:Str):Unit→Option (Str×Int):=fun _=>
 iter (VK p0 l0) FUEL (JU,0)
def VJ(p0:Plan)(l0:Layout)(Ir:(Str×Nat)→Option (Str×Int)):(Str×Nat)→Option (Str×Int):=fun (JU,vC)=>
 if decide ((vC:Int)<(p0.Changes.length:Int)) then
  ((idx p0.Changes (vC:Int)).bind fun x112=>
  (idx p0.Lines x112.fV).bind fun x115=>
  (dM (⟨[99,104,97,110,103,101,32]⟩:Str) x115.Name).bind fun ai2=>
  (dM ai2 (⟨[32]⟩:Str)).bind fun ai3=>
  (idx p0.Lines x112.iG).bind fun alG=>
  (uN x112.iy).bind fun afV=>
  (dM ai3 afV).bind fun ai4=>
  (dM ai4 (⟨[32]⟩:Str)).bind fun ai5=>
  (dM ai5 alG.Name).bind fun ai6=>
  (dM ai6 (⟨[32]⟩:Str)).bind fun ai7=>
  (uN x112.kQ).bind fun afW=>
  (dM ai7 afW).bind fun ai8=>
  (dM ai8 (⟨[32]⟩:Str)).bind fun ai9=>
  (MW x112.Min x112.Max).bind fun afX=>
  (dM ai9 afX).bind fun aja=>
  (dM aja (⟨[32]⟩:Str)).bind fun ajb=>
  (uN x112.Weight).bind fun afY=>
  (dM ajb afY).bind fun ajc=>
  (dM ajc (⟨[10]⟩:Str)).bind fun ajd=>
  (dM JU ajd).bind fun aje=>
  aO (aX ((vC:Int)+1))<|
  Ir (aje,vC+1))
 else
  (Qn p0 l0 JU ())
def Ql(p0:Plan)(l0:Layout)(vM:Str):Unit→Option (Str×Int):=fun _=>
 iter (VJ p0 l0) FUEL (vM,0)
def VI(p0:Plan)(l0:Layout)(kS:(Str×Nat)→Option (Str×Int)):(Str×Nat)→Option (Str×Int):=fun (vM,gy)=>
 if decide ((gy:Int)<(p0.Lines.length:Int)) then
  ((idx p0.Lines (gy:Int)).bind fun oV=>
  (dM (⟨[108,105,110,101,32]⟩:Str) oV.Name).bind fun q59=>
  (dM q59 (⟨[32]⟩:Str)).bind fun q61=>
  (idx p0.aP oV.aQ).bind fun Q5=>
  (dM q61 Q5.Name).bind fun q65=>
  (dM q65 (⟨[32]⟩:Str)).bind fun q67=>
  (uN oV.Weight).bind fun zx=>
  (dM q67 zx).bind fun q71=>
  (dM q71 (⟨[10]⟩:Str)).bind fun q73=>
  (dM vM q73).bind fun q75=>
  iter (Qi oV gy kS) FUEL (q75,0))
 else
  (Ql p0 l0 vM ())
def Qk(p0:Plan)(l0:Layout)(s_2:Str):Unit→Option (Str×Int):=fun _=>
 iter (VI p0 l0) FUEL (s_2,0)
def VH(p0:Plan)(l0:Layout)(eU:(Str×Nat)→Option (Str×Int)):(Str×Nat)→Option (Str×Int):=fun (s_2,gM)=>
 if decide ((gM:Int)<(p0.Routes.length:Int)) then
  ((idx p0.Routes (gM:Int)).bind fun Aj=>
  (Wh l0 Aj).bind fun jw=>
  (dM s_2 jw).bind fun q52=>
  aO (aX ((gM:Int)+1))<|
  eU (q52,gM+1))
 else
  (Qk p0 l0 s_2 ())
def Qj(p0:Plan)(l0:Layout)(s_1:Str):Unit→Option (Str×Int):=fun _=>
 iter (VH p0 l0) FUEL (s_1,0)
def Qh(p0:Plan)(l0:Layout)(aK:(Str×Nat)→Option (Str×Int)):(Str×Nat)→Option (Str×Int):=fun (s_1,aH)=>
 if decide ((aH:Int)<(p0.aP.length:Int)) then
  ((idx p0.aP (aH:Int)).bind fun gK=>
  (dM (⟨[115,116,111,99,107,32]⟩:Str) gK.Name).bind fun q16=>
  (dM q16 (⟨[32]⟩:Str)).bind fun UW=>
  (uN gK.Length).bind fun y20=>
  (dM UW y20).bind fun q22=>
  (dM q22 (⟨[32]⟩:Str)).bind fun q24=>
  (uN gK.qV).bind fun mW=>
  (dM q24 mW).bind fun q28=>
  (dM q28 (⟨[32]⟩:Str)).bind fun q30=>
  (uN gK.qQ).bind fun y32=>
  (dM q30 y32).bind fun q34=>
  (dM q34 (⟨[32]⟩:Str)).bind fun q36=>
  (uN gK.qR).bind fun y38=>
  (dM q36 y38).bind fun q40=>
  (dM q40 (⟨[10]⟩:Str)).bind fun q42=>
  (dM s_1 q42).bind fun q44=>
  aO (aX ((aH:Int)+1))<|
  aK (q44,aH+1))
 else
  (Qj p0 l0 s_1 ())
def VO(l0:Layout)(p0:Plan):Option (Str×Int):=
 (Qg l0 p0).bind fun y3=>
 if decide (y3≠0) then
  (some ((⟨[]⟩:Str),1))
 else
  ((uN p0.bJ).bind fun y6=>
  (dM (⟨[112,101,114,105,111,100,32]⟩:Str) y6).bind fun q8=>
  (dM q8 (⟨[10]⟩:Str)).bind fun q10=>
  iter (Qh p0 l0) FUEL (q10,0))
theorem auN(S:aW)(w:World)(l0:Layout)(aD:ah.R Layout)(p0:Plan)(av:ah.R Plan)(y:Str×Int)(hM:VO l0 p0=some y)(hS:sB S w)(dQ:ah.ok S w aD l0)(eF:ah.ok S w av p0):
   Calls Tryz.prog 15 #[.agg (jy l0 aD),.agg (jI p0 av)] w (bM w (.tuple #[.string y.1.ba,vI y.2])):=by
 refine bF (args:=[_,_]) Tryz.func15 rfl ((pre_nil hS).start |>.je dQ|>.jZ eF) rfl ?_;unfold VO at hM;refine sr ?_;refine oB (iR l0 aD) fun b1=>?_;refine oB (kX p0 av) fun b2=>?_;refine oa ?_;refine aN ?_;refine au fun K2 hK2=>?_;refine go ?_;obtain⟨y3,hy4,hM⟩:=bind_some hM;refine cv (fun hs=>aj1 _ _ l0 aD p0 av y3 hy4 (aM hs) ⟨(kM hs),(kM hs),(kM hs),(kM hs)⟩ ⟨(kM hs),(kM hs),(kM hs),(kM hs),(kM hs),(kM hs),(kM hs)⟩) ?_;refine oe nQ ?_;refine oc hM (fun iH hM=>?_) (fun iH hM=>?_)
 ·refine sr ?_;refine oa ?_;refine aN ?_;exact aF (uS hM)
 refine cs hK2 ?_;refine sr ?_;refine fo 0 ?_;obtain⟨y6,nS,hM⟩:=bind_some hM;refine cv (fun hs=>zf _ _ p0.bJ y6 nS (aM hs)) ?_;obtain⟨q8,hq9,hM⟩:=bind_some hM;refine oe (eB (fun _=>hq9)) ?_;obtain⟨q10,hq11,hM⟩:=bind_some hM;refine oe (eB (fun _=>hq11)) ?_;refine aN ?_;refine au fun K6 dG=>?_;refine aJ ?_;refine bI ?_;refine lk hM [2,3] (fun (s_1,aH)=>[(6,.v (.string s_1.ba)),(7,eI (aH:Int))]) [] (fun (s_1,aH)=>[]) ?_;clear hM;rintro aK ⟨s_1,aH⟩ hM eO hL1;dsimp only[Qh,cA,nA] at hM ⊢;refine au fun K8 gP=>?_;refine go ?_;refine co hM (fun mP hM=>?_) (fun mP hM=>?_)
 ·refine cs gP ?_;refine au fun tC jC=>?_;refine go ?_;refine ixs 5 5 (fun gK=>(rD gK)) (kG p0.aP av.1) hM fun gK uw hM=>?_;refine oA rfl fun b15=>?_;refine oS b15 (rD gK) ?_;refine on ?_;refine dS _ (List.Sublist.refl _) ?_;refine am 0 ?_;refine fa 1 0 ?_;obtain⟨q16,ac7,hM⟩:=bind_some hM;refine ay 3 rfl (eB (fun _=>ac7)) ?_;obtain⟨UW,ac8,hM⟩:=bind_some hM;refine ay 4 rfl (eB (fun _=>ac8)) ?_;refine fa 5 1 ?_;refine fa 10 2 ?_;refine fa 15 3 ?_;refine fa 20 4 ?_;obtain⟨y20,yO,hM⟩:=bind_some hM;refine bT 7 rfl (sV (fun hs=>zf _ _ gK.Length y20 yO (aM hs)) ⟨rI,?_⟩);obtain⟨q22,aqn,hM⟩:=bind_some hM;refine ay 8 rfl (eB (fun _=>aqn)) ?_;obtain⟨q24,aqt,hM⟩:=bind_some hM;refine ay 9 rfl (eB (fun _=>aqt)) ?_;obtain⟨mW,hy27,hM⟩:=bind_some hM;refine bT 12 rfl (sV (fun hs=>zf _ _ gK.qV mW hy27 (aM hs)) ⟨rI,?_⟩);obtain⟨q28,aqv,hM⟩:=bind_some hM;refine ay 13 rfl (eB (fun _=>aqv)) ?_;obtain⟨q30,aqw,hM⟩:=bind_some hM;refine ay 14 rfl (eB (fun _=>aqw)) ?_;obtain⟨y32,Te,hM⟩:=bind_some hM;refine bT 17 rfl (sV (fun hs=>zf _ _ gK.qQ y32 Te (aM hs)) ⟨rI,?_⟩);obtain⟨q34,aqx,hM⟩:=bind_some hM;refine ay 18 rfl (eB (fun _=>aqx)) ?_;obtain⟨q36,aqz,hM⟩:=bind_some hM;refine ay 19 rfl (eB (fun _=>aqz)) ?_;obtain⟨y38,hy39,hM⟩:=bind_some hM;refine bT 22 rfl (sV (fun hs=>zf _ _ gK.qR y38 hy39 (aM hs)) ⟨rI,?_⟩);obtain⟨q40,aqA,hM⟩:=bind_some hM;refine ay 23 rfl (eB (fun _=>aqA)) ?_;obtain⟨q42,aqB,hM⟩:=bind_some hM;refine ay 24 rfl (eB (fun _=>aqB)) ?_;obtain⟨q44,aqC,hM⟩:=bind_some hM;refine ay 25 rfl (eB (fun _=>aqC)) ?_;refine ay 26 rfl eX ?_;refine bS (jC _ _ ?_);refine bg ?_;refine om ?_;refine oP hM fun hM=>?_;refine oa ?_;refine bq (hL1 hM sS rI)
 refine cx dG ?_;dsimp only[Qj] at hM;refine au fun BZ pX=>?_;refine aJ ?_;refine bI ?_;refine lk hM [2,3] (fun (s_2,gM)=>[(6,.v (.string s_2.ba)),(9,eI (gM:Int))]) [] (fun (s_2,gM)=>[]) ?_;clear hM;rintro eU ⟨s_2,gM⟩ hM xA hL2;dsimp only[VH,cA,nA] at hM ⊢;refine au fun yu mX=>?_;refine go ?_;refine co hM (fun hc47 hM=>?_) (fun hc47 hM=>?_)
 ·refine cs mX ?_;refine au fun EB rU=>?_;refine bI ?_;refine dS _ (List.Sublist.refl _) ?_;refine am 0 ?_;refine ay 1 rfl fC ?_;refine fa 2 2 ?_;refine am 4 ?_;refine kH 5 2 2 (fun Aj=>(nV Aj (av.2.1.es (gM:Int).toNat))) (kG p0.Routes av.2.1) hM fun Aj DK hM=>?_;obtain⟨jw,Lv,hM⟩:=bind_some hM;refine bT 7 rfl (sV (fun hs=>au1 _ _ l0 aD Aj (av.2.1.es (gM:Int).toNat) jw Lv (aM hs) ⟨(kM hs),(kM hs),(kM hs),(kM hs)⟩ (Kn.lend ((Sk.elem (Sk.dw (α:=List aG) (r:=av.2.1) (x:=p0.Routes) hA) DK)).kn hs)) ⟨rI,?_⟩);obtain⟨q52,aqD,hM⟩:=bind_some hM;refine ay 8 rfl (eB (fun _=>aqD)) ?_;refine ay 9 rfl eX ?_;refine bS (rU _ _ ?_);refine bg ?_;refine om ?_;refine oP hM fun hM=>?_;refine oa ?_;refine bq (hL2 hM sS rI)
 refine cx pX ?_;dsimp only[Qk] at hM;refine au fun Rb Dx=>?_;refine aJ ?_;refine bI ?_;refine lk hM [2,3] (fun (vM,gy)=>[(6,.v (.string vM.ba)),(10,eI (gy:Int))]) [] (fun (vM,gy)=>[]) ?_;clear hM;rintro kS ⟨vM,gy⟩ hM H8 hL3;dsimp only[VI,cA,nA] at hM ⊢;refine au fun Ca pY=>?_;refine go ?_;refine co hM (fun Lg hM=>?_) (fun Lg hM=>?_)
 ·refine cs pY ?_;refine au fun K21 Lb=>?_;refine go ?_;refine ixs 4 4 (fun oV=>(mH oV (av.2.2.1.es (gy:Int).toNat))) (kG p0.Lines av.2.2.1) hM fun oV zO hM=>?_;refine oA rfl fun b58=>?_;refine oS b58 (mH oV (av.2.2.1.es (gy:Int).toNat)) ?_;refine on ?_;refine au fun K23 IJ=>?_;refine dS _ (List.Sublist.refl _) ?_;refine am 0 ?_;refine fa 1 0 ?_;obtain⟨q59,aqE,hM⟩:=bind_some hM;refine ay 3 rfl (eB (fun _=>aqE)) ?_;obtain⟨q61,aqF,hM⟩:=bind_some hM;refine ay 4 rfl (eB (fun _=>aqF)) ?_;refine fa 5 1 ?_;refine ay 7 rfl (aY 1) ?_;refine ay 8 rfl gZ ?_;refine iQ 9 5 0 (kG p0.aP av.1) hM fun Q5 aqZ hM=>?_;obtain⟨q65,aqG,hM⟩:=bind_some hM;refine ay 12 rfl (eB (fun _=>aqG)) ?_;obtain⟨q67,aqH,hM⟩:=bind_some hM;refine ay 13 rfl (eB (fun _=>aqH)) ?_;refine fa 14 2 ?_;obtain⟨zx,ads,hM⟩:=bind_some hM;refine bT 16 rfl (sV (fun hs=>zf _ _ oV.Weight zx ads (aM hs)) ⟨rI,?_⟩);obtain⟨q71,aqI,hM⟩:=bind_some hM;refine ay 17 rfl (eB (fun _=>aqI)) ?_;obtain⟨q73,aqJ,hM⟩:=bind_some hM;refine ay 18 rfl (eB (fun _=>aqJ)) ?_;obtain⟨q75,aqK,hM⟩:=bind_some hM;refine ay 19 rfl (eB (fun _=>aqK)) ?_;refine ay 20 rfl eX ?_;refine bS (IJ _ _ ?_);refine aJ ?_;refine bI ?_;refine lk hM [2,3,10,11] (fun (JR,o9)=>[(6,.v (.string JR.ba)),(12,eI (o9:Int))]) [] (fun (JR,o9)=>[]) ?_;clear hM;rintro rQ ⟨JR,o9⟩ hM Xt hL4;dsimp only[Qi,cA,nA] at hM ⊢;refine au fun K25 acA=>?_;refine go ?_;refine co hM (fun apd hM=>?_) (fun apd hM=>?_)
  · refine cs acA ?_;refine au fun Xp Gh=>?_;refine bI ?_;refine au fun K28 acB=>?_;refine dS _ (List.Sublist.refl _) ?_;refine am 0 ?_;refine fa 1 3 ?_;refine am 3 ?_;obtain⟨FN,YN,hM⟩:=bind_some hM;refine ay 4 rfl (dL 4 ((Sk.elem (Sk.dw (α:=List Line) (r:=av.2.2.1) (x:=p0.Lines) hA) zO)).kn (iS YN)) ?_;refine ay 5 rfl (aY 0) ?_;refine ay 6 rfl (dY 0 ((Sk.elem (Sk.dw (α:=List Line) (r:=av.2.2.1) (x:=p0.Lines) hA) zO)).kn (fun _=>YN)) ?_;refine fa 10 3 ?_;refine am 12 ?_;obtain⟨x80,YO,hM⟩:=bind_some hM;refine ay 13 rfl (dL 4 ((Sk.elem (Sk.dw (α:=List Line) (r:=av.2.2.1) (x:=p0.Lines) hA) zO)).kn (iS YO)) ?_;refine ay 14 rfl (aY 1) ?_;refine ay 15 rfl (dY 1 ((Sk.elem (Sk.dw (α:=List Line) (r:=av.2.2.1) (x:=p0.Lines) hA) zO)).kn (fun _=>YO)) ?_;obtain⟨FQ,adv,hM⟩:=bind_some hM;refine bT 7 rfl (sV (fun hs=>zf _ _ FN.aG FQ adv (aM hs)) ⟨rI,?_⟩);obtain⟨q84,aqL,hM⟩:=bind_some hM;refine ay 8 rfl (eB (fun _=>aqL)) ?_;obtain⟨q86,aqM,hM⟩:=bind_some hM;refine ay 9 rfl (eB (fun _=>aqM)) ?_;obtain⟨Kz,adw,hM⟩:=bind_some hM;refine bT 16 rfl (sV (fun hs=>zf _ _ x80.Extra Kz adw (aM hs)) ⟨rI,?_⟩);obtain⟨q90,aqN,hM⟩:=bind_some hM;refine ay 17 rfl (eB (fun _=>aqN)) ?_;obtain⟨q92,aqO,hM⟩:=bind_some hM;refine ay 18 rfl (eB (fun _=>aqO)) ?_;refine ay 19 rfl eX ?_;refine bS (acB _ _ ?_);refine jl y (k:=Qm o9 rQ) [2,3,10,11,12] (fun WE=>[(6,.v (.string WE.ba))]) [] (fun WE=>[]) ?_ ?_
    ·intro Xr zL;refine sr ?_;refine fo 3 ?_;refine om ?_;obtain⟨x97,hx98,hM⟩:=bind_some hM;refine oe (dL 4 ((Sk.elem (Sk.dw (α:=List Line) (r:=av.2.2.1) (x:=p0.Lines) hA) zO)).kn (iS hx98)) ?_;refine oe (aY 3) ?_;refine oe (dY 3 ((Sk.elem (Sk.dw (α:=List Line) (r:=av.2.2.1) (x:=p0.Lines) hA) zO)).kn (fun _=>hx98)) ?_;refine oe vY ?_;refine oc hM (fun hc99 hM=>?_) (fun hc99 hM=>?_)
     ·refine dS _ (List.Sublist.refl _) ?_;refine am 0 ?_;refine fa 1 3 ?_;refine am 3 ?_;obtain⟨x100,hx101,hM⟩:=bind_some hM;refine ay 4 rfl (dL 4 ((Sk.elem (Sk.dw (α:=List Line) (r:=av.2.2.1) (x:=p0.Lines) hA) zO)).kn (iS hx101)) ?_;refine ay 5 rfl (aY 2) ?_;refine ay 6 rfl (dY 2 ((Sk.elem (Sk.dw (α:=List Line) (r:=av.2.2.1) (x:=p0.Lines) hA) zO)).kn (fun _=>hx101)) ?_;refine fa 7 3 ?_;refine am 9 ?_;obtain⟨x102,ahF,hM⟩:=bind_some hM;refine ay 10 rfl (dL 4 ((Sk.elem (Sk.dw (α:=List Line) (r:=av.2.2.1) (x:=p0.Lines) hA) zO)).kn (iS ahF)) ?_;refine ay 11 rfl (aY 3) ?_;refine ay 12 rfl (dY 3 ((Sk.elem (Sk.dw (α:=List Line) (r:=av.2.2.1) (x:=p0.Lines) hA) zO)).kn (fun _=>ahF)) ?_;obtain⟨y104,aq1,hM⟩:=bind_some hM;refine bT 13 rfl (sV (fun hs=>afg _ _ x100.Min x102.Max y104 aq1 (aM hs)) ⟨rI,?_⟩);obtain⟨ai0,apM,hM⟩:=bind_some hM;refine ay 14 rfl (eB (fun _=>apM)) ?_;obtain⟨ai1,apN,hM⟩:=bind_some hM;refine ay 15 rfl (eB (fun _=>apN)) ?_;refine ay 16 rfl eX ?_;refine bS (zL hM sS rI)
     refine gG (zL hM sS rI)
    clear hM;rintro WE hM;dsimp only[Qm,cA,nA] at hM ⊢;refine bg ?_;refine om ?_;obtain⟨q94,aqP,hM⟩:=bind_some hM;refine oe (eB (fun _=>aqP)) ?_;refine oa ?_;refine bq (Gh _ _ ?_);refine bg ?_;refine om ?_;refine oP hM fun hM=>?_;refine oa ?_;refine bq (hL4 hM sS rI)
  refine cx Lb ?_;dsimp only[ae8] at hM;refine bg ?_;refine om ?_;refine oP hM fun hM=>?_;refine oa ?_;refine bq (hL3 hM sS rI)
 refine cx Dx ?_;dsimp only[Ql] at hM;refine au fun Rh DC=>?_;refine aJ ?_;refine bI ?_;refine lk hM [2,3] (fun (JU,vC)=>[(6,.v (.string JU.ba)),(13,eI (vC:Int))]) [] (fun (JU,vC)=>[]) ?_;clear hM;rintro Ir ⟨JU,vC⟩ hM KL5 hL5;dsimp only[VJ,cA,nA] at hM ⊢;refine au fun K32 Si=>?_;refine go ?_;refine co hM (fun aoW hM=>?_) (fun aoW hM=>?_)
 ·refine cs Si ?_;refine au fun K34 Sj=>?_;refine go ?_;refine ixs 7 7 (fun x112=>(GD x112)) (kG p0.Changes av.2.2.2.1) hM fun x112 hx113 hM=>?_;refine oA rfl fun amq=>?_;refine oS amq (GD x112) ?_;refine on ?_;refine dS _ (List.Sublist.refl _) ?_;refine am 0 ?_;refine fa 1 3 ?_;refine fa 3 0 ?_;refine iQ 5 4 0 (kG p0.Lines av.2.2.1) hM fun x115 axC hM=>?_;obtain⟨ai2,apO,hM⟩:=bind_some hM;refine ay 8 rfl (eB (fun _=>apO)) ?_;obtain⟨ai3,apP,hM⟩:=bind_some hM;refine ay 9 rfl (eB (fun _=>apP)) ?_;refine fa 10 1 ?_;refine fa 15 3 ?_;refine fa 17 2 ?_;refine iQ 19 4 0 (kG p0.Lines av.2.2.1) hM fun alG axD hM=>?_;refine fa 24 3 ?_;refine fa 29 4 ?_;refine fa 31 5 ?_;refine fa 36 6 ?_;obtain⟨afV,aq7,hM⟩:=bind_some hM;refine bT 12 rfl (sV (fun hs=>zf _ _ x112.iy afV aq7 (aM hs)) ⟨rI,?_⟩);obtain⟨ai4,apQ,hM⟩:=bind_some hM;refine ay 13 rfl (eB (fun _=>apQ)) ?_;obtain⟨ai5,apR,hM⟩:=bind_some hM;refine ay 14 rfl (eB (fun _=>apR)) ?_;obtain⟨ai6,apS,hM⟩:=bind_some hM;refine ay 22 rfl (eB (fun _=>apS)) ?_;obtain⟨ai7,apT,hM⟩:=bind_some hM;refine ay 23 rfl (eB (fun _=>apT)) ?_;obtain⟨afW,arb,hM⟩:=bind_some hM;refine bT 26 rfl (sV (fun hs=>zf _ _ x112.kQ afW arb (aM hs)) ⟨rI,?_⟩);obtain⟨ai8,apU,hM⟩:=bind_some hM;refine ay 27 rfl (eB (fun _=>apU)) ?_;obtain⟨ai9,apV,hM⟩:=bind_some hM;refine ay 28 rfl (eB (fun _=>apV)) ?_;obtain⟨afX,arf,hM⟩:=bind_some hM;refine bT 33 rfl (sV (fun hs=>afg _ _ x112.Min x112.Max afX arf (aM hs)) ⟨rI,?_⟩);obtain⟨aja,apW,hM⟩:=bind_some hM;refine ay 34 rfl (eB (fun _=>apW)) ?_;obtain⟨ajb,apX,hM⟩:=bind_some hM;refine ay 35 rfl (eB (fun _=>apX)) ?_;obtain⟨afY,arh,hM⟩:=bind_some hM;refine bT 38 rfl (sV (fun hs=>zf _ _ x112.Weight afY arh (aM hs)) ⟨rI,?_⟩);obtain⟨ajc,apY,hM⟩:=bind_some hM;refine ay 39 rfl (eB (fun _=>apY)) ?_;obtain⟨ajd,ap0,hM⟩:=bind_some hM;refine ay 40 rfl (eB (fun _=>ap0)) ?_;obtain⟨aje,ap1,hM⟩:=bind_some hM;refine ay 41 rfl (eB (fun _=>ap1)) ?_;refine ay 42 rfl eX ?_;refine bS (Sj _ _ ?_);refine bg ?_;refine om ?_;refine oP hM fun hM=>?_;refine oa ?_;refine bq (hL5 hM sS rI)
 refine cx DC ?_;dsimp only[Qn] at hM;refine au fun K36 aoa=>?_;refine aJ ?_;refine bI ?_;refine lk hM [2,3] (fun (JV,wC)=>[(6,.v (.string JV.ba)),(15,eI (wC:Int))]) [] (fun (JV,wC)=>[]) ?_;clear hM;rintro RL ⟨JV,wC⟩ hM KL6 hL6;dsimp only[VK,cA,nA] at hM ⊢;refine au fun K38 acD=>?_;refine go ?_;refine co hM (fun aoY hM=>?_) (fun aoY hM=>?_)
 ·refine cs acD ?_;refine au fun K40 acF=>?_;refine go ?_;refine ixs 4 4 (fun FL=>(zZ FL)) (kG p0.Turns av.2.2.2.2.1) hM fun FL axE hM=>?_;refine oA rfl fun amr=>?_;refine oS amr (zZ FL) ?_;refine on ?_;refine dS _ (List.Sublist.refl _) ?_;refine am 0 ?_;refine fa 1 3 ?_;refine fa 3 0 ?_;refine iQ 5 4 0 (kG p0.Lines av.2.2.1) hM fun x158 hx159 hM=>?_;obtain⟨ajf,ap2,hM⟩:=bind_some hM;refine ay 8 rfl (eB (fun _=>ap2)) ?_;obtain⟨ajg,ap3,hM⟩:=bind_some hM;refine ay 9 rfl (eB (fun _=>ap3)) ?_;refine fa 10 3 ?_;refine fa 12 1 ?_;refine iQ 14 4 0 (kG p0.Lines av.2.2.1) hM fun alH axF hM=>?_;obtain⟨ajh,ap4,hM⟩:=bind_some hM;refine ay 17 rfl (eB (fun _=>ap4)) ?_;obtain⟨aji,ap5,hM⟩:=bind_some hM;refine ay 18 rfl (eB (fun _=>ap5)) ?_;refine fa 19 2 ?_;refine fa 21 3 ?_;obtain⟨afZ,ari,hM⟩:=bind_some hM;refine bT 23 rfl (sV (fun hs=>afg _ _ FL.Min FL.Max afZ ari (aM hs)) ⟨rI,?_⟩);obtain⟨ajj,ap6,hM⟩:=bind_some hM;refine ay 24 rfl (eB (fun _=>ap6)) ?_;obtain⟨ajk,ap7,hM⟩:=bind_some hM;refine ay 25 rfl (eB (fun _=>ap7)) ?_;obtain⟨ajl,ap8,hM⟩:=bind_some hM;refine ay 26 rfl (eB (fun _=>ap8)) ?_;refine ay 27 rfl eX ?_;refine bS (acF _ _ ?_);refine bg ?_;refine om ?_;refine oP hM fun hM=>?_;refine oa ?_;refine bq (hL6 hM sS rI)
 refine cx aoa ?_;dsimp only[Qo] at hM;refine au fun K42 aoc=>?_;refine aJ ?_;refine bI ?_;refine lk hM [2,3] (fun (JW,wD)=>[(6,.v (.string JW.ba)),(17,eI (wD:Int))]) [] (fun (JW,wD)=>[]) ?_;clear hM;rintro RN ⟨JW,wD⟩ hM KL7 hL7;dsimp only[VL,cA,nA] at hM ⊢;refine au fun K44 aoe=>?_;refine go ?_;refine co hM (fun aoZ hM=>?_) (fun aoZ hM=>?_)
 ·refine cs aoe ?_;refine au fun K46 aog=>?_;refine go ?_;refine ixs 5 5 (fun Dk=>(Jh Dk)) (kG p0.bB av.2.2.2.2.2.1) hM fun Dk axG hM=>?_;refine oA rfl fun ams=>?_;refine oS ams (Jh Dk) ?_;refine on ?_;refine dS _ (List.Sublist.refl _) ?_;refine am 0 ?_;refine fa 1 3 ?_;refine fa 3 0 ?_;refine iQ 5 4 0 (kG p0.Lines av.2.2.1) hM fun alI axH hM=>?_;obtain⟨ajm,ap9,hM⟩:=bind_some hM;refine ay 8 rfl (eB (fun _=>ap9)) ?_;obtain⟨ajn,aqa,hM⟩:=bind_some hM;refine ay 9 rfl (eB (fun _=>aqa)) ?_;refine fa 10 1 ?_;refine fa 15 3 ?_;refine fa 17 2 ?_;refine iQ 19 4 0 (kG p0.Lines av.2.2.1) hM fun alJ axI hM=>?_;refine fa 24 3 ?_;refine fa 29 4 ?_;obtain⟨af0,arj,hM⟩:=bind_some hM;refine bT 12 rfl (sV (fun hs=>zf _ _ Dk.lJ af0 arj (aM hs)) ⟨rI,?_⟩);obtain⟨ajo,aqb,hM⟩:=bind_some hM;refine ay 13 rfl (eB (fun _=>aqb)) ?_;obtain⟨ajp,aqc,hM⟩:=bind_some hM;refine ay 14 rfl (eB (fun _=>aqc)) ?_;obtain⟨ajq,aqd,hM⟩:=bind_some hM;refine ay 22 rfl (eB (fun _=>aqd)) ?_;obtain⟨ajr,aqe,hM⟩:=bind_some hM;refine ay 23 rfl (eB (fun _=>aqe)) ?_;obtain⟨af2,ark,hM⟩:=bind_some hM;refine bT 26 rfl (sV (fun hs=>zf _ _ Dk.lV af2 ark (aM hs)) ⟨rI,?_⟩);obtain⟨ajs,aqf,hM⟩:=bind_some hM;refine ay 27 rfl (eB (fun _=>aqf)) ?_;obtain⟨ajt,aqg,hM⟩:=bind_some hM;refine ay 28 rfl (eB (fun _=>aqg)) ?_;obtain⟨af3,arl,hM⟩:=bind_some hM;refine bT 31 rfl (sV (fun hs=>zf _ _ Dk.Offset af3 arl (aM hs)) ⟨rI,?_⟩);obtain⟨aju,aqh,hM⟩:=bind_some hM;refine ay 32 rfl (eB (fun _=>aqh)) ?_;obtain⟨ajv,aqi,hM⟩:=bind_some hM;refine ay 33 rfl (eB (fun _=>aqi)) ?_;obtain⟨ajw,aqj,hM⟩:=bind_some hM;refine ay 34 rfl (eB (fun _=>aqj)) ?_;refine ay 35 rfl eX ?_;refine bS (aog _ _ ?_);refine bg ?_;refine om ?_;refine oP hM fun hM=>?_;refine oa ?_;refine bq (hL7 hM sS rI)
 refine cx aoc ?_;dsimp only[Qp] at hM;refine au fun K48 aoi=>?_;refine aJ ?_;refine bI ?_;refine lk hM [2,3] (fun (JX,I6)=>[(6,.v (.string JX.ba)),(19,eI (I6:Int))]) [] (fun (JX,I6)=>[]) ?_;clear hM;rintro agR ⟨JX,I6⟩ hM KL8 hL8;dsimp only[VN,cA,nA] at hM ⊢;refine au fun K50 aoj=>?_;refine go ?_;refine co hM (fun ao1 hM=>?_) (fun ao1 hM=>?_)
 ·refine cs aoj ?_;refine au fun K52 aol=>?_;refine go ?_;refine ixs 3 3 (fun Kl=>(Jg Kl)) (kG p0.bA av.2.2.2.2.2.2) hM fun Kl axJ hM=>?_;refine oA rfl fun amt=>?_;refine oS amt (Jg Kl) ?_;refine on ?_;refine dS _ (List.Sublist.refl _) ?_;refine am 0 ?_;refine fa 1 0 ?_;refine fa 3 0 ?_;refine ET 5 1 (kG l0.aT aD.1) hM fun alK axK hM=>?_;obtain⟨ajx,aqk,hM⟩:=bind_some hM;refine ay 7 rfl (eB (fun _=>aqk)) ?_;obtain⟨ajy,aql,hM⟩:=bind_some hM;refine ay 8 rfl (eB (fun _=>aql)) ?_;refine fa 9 0 ?_;refine fa 11 1 ?_;refine ET 13 1 (kG l0.aT aD.1) hM fun alL axL hM=>?_;obtain⟨ajz,aqm,hM⟩:=bind_some hM;refine ay 15 rfl (eB (fun _=>aqm)) ?_;obtain⟨ajA,aqo,hM⟩:=bind_some hM;refine ay 16 rfl (eB (fun _=>aqo)) ?_;refine fa 17 2 ?_;obtain⟨af4,arn,hM⟩:=bind_some hM;refine bT 19 rfl (sV (fun hs=>zf _ _ Kl.Weight af4 arn (aM hs)) ⟨rI,?_⟩);obtain⟨ajB,aqp,hM⟩:=bind_some hM;refine ay 20 rfl (eB (fun _=>aqp)) ?_;obtain⟨ajC,aqr,hM⟩:=bind_some hM;refine ay 21 rfl (eB (fun _=>aqr)) ?_;obtain⟨ajD,aqs,hM⟩:=bind_some hM;refine ay 22 rfl (eB (fun _=>aqs)) ?_;refine ay 23 rfl eX ?_;refine bS (aol _ _ ?_);refine bg ?_;refine om ?_;refine oP hM fun hM=>?_;refine oa ?_;refine bq (hL8 hM sS rI)
 refine cx aoi ?_;dsimp only[aj2] at hM;refine aR ?_;refine oa ?_;refine aN ?_;exact aF (uS hM)
end Go.Proofs.YtcalibhfgdncaaaGreatDoor

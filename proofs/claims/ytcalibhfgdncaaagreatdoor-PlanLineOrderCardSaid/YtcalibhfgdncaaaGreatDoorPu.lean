/- Functions: models, proved of the code. -/
import Derived.Test.YtcalibhfgdncaaaGreatDoorRl
namespace Go.Proofs.YtcalibhfgdncaaaGreatDoor
open Go.Dc Go.RowKit
set_option maxRecDepth 10000
set_option linter.all false
def adQ(i0:Int)(b0:dB)(c0:Int)(Cu:List Step):Unit→Option aG:=fun _=>
 aO (aX (i0+1))<|
 (idx b0.tracks (i0+1)).bind fun x24=>
 aO (aX (i0+1))<|
 aO (decide ((x24.length:Int)≠0))<|
 (idx x24 (c0.tmod (x24.length:Int))).bind fun x28=>
 aO (decide ((Cu.length+([(Step.mk x28 0)]:List Step).length)*16≤140737488355328))<|
 some (aG.mk (Cu++([(Step.mk x28 0)]:List Step)) 0)
def TW(x2:List Int)(i0:Int)(b0:dB)(c0:Int)(aK:((List Step)×Nat)→Option aG):((List Step)×Nat)→Option aG:=fun (Cu,Nn)=>
 if decide ((Nn:Int)<(x2.length:Int)) then
  ((idx x2 (Nn:Int)).bind fun x18=>
  aO (decide ((Cu.length+([(Step.mk x18 0)]:List Step).length)*16≤140737488355328))<|
  aK ((Cu++([(Step.mk x18 0)]:List Step)),Nn+1))
 else
  (adQ i0 b0 c0 Cu ())
def adR(b0:dB)(i0:Int)(a0:Int)(nU:List Step):Unit→Option aG:=fun _=>
 (idx b0.tracks i0).bind fun Ny=>
 aO (decide ((Ny.length:Int)≠0))<|
 (idx Ny (a0.tmod (Ny.length:Int))).bind fun oV=>
 aO (decide ((nU.length+([(Step.mk oV 1)]:List Step).length)*16≤140737488355328))<|
 some (aG.mk (nU++([(Step.mk oV 1)]:List Step)) 0)
def TY(x2:List Int)(b0:dB)(i0:Int)(a0:Int)(eU:((List Step)×Int)→Option aG):((List Step)×Int)→Option aG:=fun (nU,dI)=>
 if decide (0≤dI) then
  ((idx x2 dI).bind fun xu=>
  aO (decide ((nU.length+([(Step.mk xu 1)]:List Step).length)*16≤140737488355328))<|
  aO (aX (dI-1))<|
  eU ((nU++([(Step.mk xu 1)]:List Step)),(dI-1)))
 else
  (adR b0 i0 a0 nU ())
def adP(i0:Int)(b0:dB)(c0:Int)(x2:List Int)(a0:Int):Unit→Option aG:=fun _=>
 aO (aX (i0+1))<|
 (idx b0.tracks (i0+1)).bind fun x34=>
 aO (aX (i0+1))<|
 aO (decide ((x34.length:Int)≠0))<|
 (idx x34 (c0.tmod (x34.length:Int))).bind fun x38=>
 aO (decide ((([]:List Step).length+([(Step.mk x38 1)]:List Step).length)*16≤140737488355328))<|
 aO (aX ((x2.length:Int)-1))<|
 iter (TY x2 b0 i0 a0) FUEL ((([]:List Step)++([(Step.mk x38 1)]:List Step)),((x2.length:Int)-1))
def Gq(b0:dB)(i0:Int)(a0:Int)(c0:Int)(tq:Bool):Option aG:=
 (idx b0.between i0).bind fun x2=>
 if tq then
  ((idx b0.tracks i0).bind fun x6=>
  aO (decide ((x6.length:Int)≠0))<|
  (idx x6 (a0.tmod (x6.length:Int))).bind fun x9=>
  aO (decide ((([]:List Step).length+([(Step.mk x9 0)]:List Step).length)*16≤140737488355328))<|
  iter (TW x2 i0 b0 c0) FUEL ((([]:List Step)++([(Step.mk x9 0)]:List Step)),0))
 else
  (adP i0 b0 c0 x2 a0 ())
theorem asn(S:aW)(w:World)(kR:Nat)(b0:dB)(aV:ah.R dB)(i0:Int)(a0:Int)(c0:Int)(tq:Bool)(y:aG)(hM:Gq b0 i0 a0 c0 tq=some y)(hS:sB S w)(acP:S kR∧w.heap[kR]?=some (.cells (Ea b0 aV).toArray 76 (0,0)))(mY:ah.ok S w aV b0):
   Calls Tryz.prog 77 #[vP kR,vI i0,vI a0,vI c0,.bool tq] w (Post (β:=(ah.R aG)) S [] (fun g=> .agg (xC y g)) (fun g=>[aj 92 g y.Steps]) w):=by
 refine bF (args:=[_,_,_,_,_]) Tryz.func77 rfl ((pre_nil hS).start |>.mJ acP|>.je mY.1|>.bG mY.2.1|>.bG mY.2.2.1|>.bG mY.2.2.2) rfl ?_;unfold Gq at hM;refine sr ?_;refine oA rfl fun b1=>?_;refine on ?_;refine au fun K2 hK2=>?_;refine dS _ (List.Sublist.refl _) ?_;refine am 0 ?_;refine ay 1 rfl dF ?_;refine ay 2 rfl (aY 5) ?_;refine ay 3 rfl (o7 (b:=kR)) ?_;refine am 4 ?_;refine ET 5 1 (kG b0.between aV.2.2.1) hM fun x2 hx3 hM=>?_;refine am 7 ?_;refine ay 8 rfl dF ?_;refine ay 9 rfl (aY 4) ?_;refine ay 10 rfl (o7 (b:=kR)) ?_
 refine ay 11 rfl eX ?_;refine ay 12 rfl eX ?_;refine bS (hK2 _ _ ?_);refine sr ?_;refine oA rfl fun b4=>?_;refine on ?_;refine au fun K4 hK4=>?_;refine aR ?_;refine oc hM (fun iH hM=>?_) (fun iH hM=>?_)
 ·refine au fun K6 dG=>?_;refine kZ [] 19 ?_;refine fz 0 0 ?_;refine zm 2 ?_;refine zm 3 ?_;refine AX 4 1 (kG b0.tracks aV.2.1) hM fun x6 hx7 hM=>?_;refine zm 6 ?_;refine zm 7 ?_;refine zm 8 ?_;refine aI 9 rfl (dL 1 (kG b0.tracks aV.2.1) (iS hx7)) ?_;refine aI 10 rfl (dY 0 (kG b0.tracks aV.2.1) (fun _=>hx7)) ?_;refine aI 11 rfl jq ?_;obtain⟨La,hM⟩:=bQ hM;refine aI 12 rfl (Au (hq:=fun hg=>of_decide_eq_true La)) ?_;obtain⟨x9,sj,hM⟩:=bind_some hM;refine aI 13 rfl (dL 1 ((Sk.elem (Sk.dw (α:=List (List Int)) (r:=aV.2.1) (x:=b0.tracks) hA) hx7)).kn (iS sj)) ?_;refine aI 14 rfl (dY 0 ((Sk.elem (Sk.dw (α:=List (List Int)) (r:=aV.2.1) (x:=b0.tracks) hA) hx7)).kn (fun _=>sj)) ?_;refine aI 15 rfl (dO [vI x9,vI 0]) ?_;refine cK 16 rfl (fI (α:=Step) 92 (fun _=>()) ([(Step.mk x9 0)]:List Step) oF (fun r11=>⟨rI,?_⟩))
  refine vg (fun w hm=>hm.sN (α:=Step) 92 (fun _=>())) ?_;obtain⟨Sn,hM⟩:=bQ hM;refine cK 17 rfl (iq (r:=uF) (r2:=r11) uR (Kn.aj (e:=92) (r:=r11) hA) oF (of_decide_eq_true Sn) (fun wU=>⟨rI,?_⟩));refine aI 18 rfl (aY 0) ?_;refine iX rfl (sO ?_);refine iW (dG _ _ ?_);refine au fun K7 gu=>?_;refine aR ?_;refine kK (fun w hm=>Kn.len ((Sk.elem (Sk.dw (α:=List (List Int)) (r:=aV.2.2.1) (x:=b0.between) hA) hx3)).kn hm) fun ahz=>?_;refine oe jq ?_;refine om ?_;refine on ?_;refine bI ?_;refine rn Step 92 (fun _=>()) ?_;refine lr wU hM [1,3,10,11,12,13,48] (fun (Cu,Nn) QF=>[(49,eI (Nn:Int))]) [1,0,0,1,2,0,0,0,0] (fun (Cu,Nn) QF=>[aj 92 QF Cu,own b4 90 [sL QF Cu,vI 0]]) ?_;clear hM;rintro aK ⟨Cu,Nn⟩ QF hM eO hL1;dsimp only[TW,cA,nA] at hM ⊢;refine sr ?_;refine oe gq ?_;refine on ?_;refine au fun tC jC=>?_;refine co hM (fun hc17 hM=>?_) (fun hc17 hM=>?_)
  · have ao0:=of_decide_eq_true hc17;refine cs jC ?_;refine au fun nG gH=>?_;refine bI ?_;refine aR ?_;refine aN ?_;refine kZ [0] 10 ?_;refine fz 0 0 ?_;refine zm 2 ?_;refine zm 3 ?_;obtain⟨x18,Lp,hM⟩:=bind_some hM;refine aI 4 rfl (dL 1 ((Sk.elem (Sk.dw (α:=List (List Int)) (r:=aV.2.2.1) (x:=b0.between) hA) hx3)).kn (iS Lp)) ?_;refine aI 5 rfl (dY 0 ((Sk.elem (Sk.dw (α:=List (List Int)) (r:=aV.2.2.1) (x:=b0.between) hA) hx3)).kn (fun _=>Lp)) ?_;refine aI 6 rfl (dO [vI x18,vI 0]) ?_;refine cK 7 rfl (fI (α:=Step) 92 (fun _=>()) ([(Step.mk x18 0)]:List Step) oF (fun za=>⟨rI,?_⟩));obtain⟨Sr,hM⟩:=bQ hM;refine cK 8 rfl (iq (r:=QF) (r2:=za) uR (Kn.aj (e:=92) (r:=za) hA) oF (of_decide_eq_true Sr) (fun ze=>⟨rI,?_⟩));refine aI 9 rfl (aY 0) ?_;refine iX rfl (sO ?_);refine iW (gH _ _ ?_);refine bg ?_;refine oe (dP (hr:=fun _=>by unfold gN;omega)) ?_;refine om ?_;refine bq (hL1 ze hM sS rI)
  refine cx gu ?_;dsimp only[adQ] at hM;refine au fun zA nR=>?_;refine kZ [0] 21 ?_;refine fz 0 0 ?_;refine zm 2 ?_;refine zm 3 ?_;obtain⟨anQ,hM⟩:=bQ hM;refine aI 4 rfl (dP (hr:=fun hg=>dU anQ)) ?_;refine AX 5 1 (kG b0.tracks aV.2.1) hM fun x24 hx25 hM=>?_;refine zm 7 ?_;refine zm 8 ?_;refine zm 9 ?_;obtain⟨Sc,hM⟩:=bQ hM;refine aI 10 rfl (dP (hr:=fun hg=>dU Sc)) ?_;refine aI 11 rfl (dL 1 (kG b0.tracks aV.2.1) (iS hx25)) ?_;refine aI 12 rfl (dY 0 (kG b0.tracks aV.2.1) (fun _=>hx25)) ?_;refine aI 13 rfl jq ?_;obtain⟨anS,hM⟩:=bQ hM;refine aI 14 rfl (Au (hq:=fun hg=>of_decide_eq_true anS)) ?_;obtain⟨x28,hx29,hM⟩:=bind_some hM;refine aI 15 rfl (dL 1 ((Sk.elem (Sk.dw (α:=List (List Int)) (r:=aV.2.1) (x:=b0.tracks) hA) hx25)).kn (iS hx29)) ?_;refine aI 16 rfl (dY 0 ((Sk.elem (Sk.dw (α:=List (List Int)) (r:=aV.2.1) (x:=b0.tracks) hA) hx25)).kn (fun _=>hx29)) ?_
  refine aI 17 rfl (dO [vI x28,vI 0]) ?_;refine cK 18 rfl (fI (α:=Step) 92 (fun _=>()) ([(Step.mk x28 0)]:List Step) oF (fun r30=>⟨rI,?_⟩));obtain⟨aoH,hM⟩:=bQ hM;refine cK 19 rfl (iq (r:=QF) (r2:=r30) uR (Kn.aj (e:=92) (r:=r30) hA) oF (of_decide_eq_true aoH) (fun MC=>⟨rI,?_⟩));refine aI 20 rfl (aY 0) ?_;refine iX rfl (sO ?_);refine iW (nR _ _ ?_);refine sr ?_;refine oe fC ?_;refine oS b1 [.slice MC.a ((Cu++([(Step.mk x28 0)]:List Step)).length) MC.cap,vI 0] ?_;refine on ?_;obtain rfl:=some_inj hM;refine aF (eG (fun w hm=>bR MC hm rfl))
 refine cs hK4 ?_;dsimp only[adP] at hM;refine au fun Dn qF=>?_;refine kZ [] 21 ?_;refine fz 0 0 ?_;refine zm 2 ?_;refine zm 3 ?_;obtain⟨acz,hM⟩:=bQ hM;refine aI 4 rfl (dP (hr:=fun hg=>dU acz)) ?_;refine AX 5 1 (kG b0.tracks aV.2.1) hM fun x34 Ck hM=>?_;refine zm 7 ?_;refine zm 8 ?_;refine zm 9 ?_;obtain⟨anW,hM⟩:=bQ hM;refine aI 10 rfl (dP (hr:=fun hg=>dU anW)) ?_;refine aI 11 rfl (dL 1 (kG b0.tracks aV.2.1) (iS Ck)) ?_;refine aI 12 rfl (dY 0 (kG b0.tracks aV.2.1) (fun _=>Ck)) ?_;refine aI 13 rfl jq ?_;obtain⟨Sd,hM⟩:=bQ hM;refine aI 14 rfl (Au (hq:=fun hg=>of_decide_eq_true Sd)) ?_;obtain⟨x38,hx39,hM⟩:=bind_some hM;refine aI 15 rfl (dL 1 ((Sk.elem (Sk.dw (α:=List (List Int)) (r:=aV.2.1) (x:=b0.tracks) hA) Ck)).kn (iS hx39)) ?_;refine aI 16 rfl (dY 0 ((Sk.elem (Sk.dw (α:=List (List Int)) (r:=aV.2.1) (x:=b0.tracks) hA) Ck)).kn (fun _=>hx39)) ?_
 refine aI 17 rfl (dO [vI x38,vI 1]) ?_;refine cK 18 rfl (fI (α:=Step) 92 (fun _=>()) ([(Step.mk x38 1)]:List Step) oF (fun Js=>⟨rI,?_⟩));refine vg (fun w hm=>hm.sN (α:=Step) 92 (fun _=>())) ?_;obtain⟨acN,hM⟩:=bQ hM;refine cK 19 rfl (iq (r:=uF) (r2:=Js) uR (Kn.aj (e:=92) (r:=Js) hA) oF (of_decide_eq_true acN) (fun r42=>⟨rI,?_⟩));refine aI 20 rfl (aY 0) ?_;refine iX rfl (sO ?_);refine iW (qF _ _ ?_);refine au fun EB rU=>?_;refine aR ?_;refine oe jq ?_;refine oN hM fun hM=>?_;refine aN ?_;refine bI ?_;refine rn Step 92 (fun _=>()) ?_;refine lr r42 hM [1,2,10,11,12,13] (fun (nU,dI) Af=>[(15,eI dI)]) [1,0,0,1,2,0,0,0,0] (fun (nU,dI) Af=>[aj 92 Af nU,own b4 90 [sL Af nU,vI 0]]) ?_;clear hM;rintro eU ⟨nU,dI⟩ Af hM xA hL2;dsimp only[TY,cA,nA] at hM ⊢;refine au fun H7 wo=>?_;refine sr ?_
 refine om ?_;refine oe IE ?_;refine oc hM (fun SG hM=>?_) (fun SG hM=>?_)
 ·refine cs wo ?_;refine au fun EC rV=>?_;refine bI ?_;refine kZ [0] 10 ?_;refine fz 0 0 ?_;refine zm 2 ?_;refine zm 3 ?_;obtain⟨xu,N9,hM⟩:=bind_some hM;refine aI 4 rfl (dL 1 ((Sk.elem (Sk.dw (α:=List (List Int)) (r:=aV.2.2.1) (x:=b0.between) hA) hx3)).kn (iS N9)) ?_;refine aI 5 rfl (dY 0 ((Sk.elem (Sk.dw (α:=List (List Int)) (r:=aV.2.2.1) (x:=b0.between) hA) hx3)).kn (fun _=>N9)) ?_;refine aI 6 rfl (dO [vI xu,vI 1]) ?_;refine cK 7 rfl (fI (α:=Step) 92 (fun _=>()) ([(Step.mk xu 1)]:List Step) oF (fun ZC=>⟨rI,?_⟩));obtain⟨acO,hM⟩:=bQ hM;refine cK 8 rfl (iq (r:=Af) (r2:=ZC) uR (Kn.aj (e:=92) (r:=ZC) hA) oF (of_decide_eq_true acO) (fun Pw=>⟨rI,?_⟩));refine aI 9 rfl (aY 0) ?_;refine iX rfl (sO ?_);refine iW (rV _ _ ?_);refine bg ?_;refine om ?_;refine oN hM fun hM=>?_;refine oa ?_;refine bq (hL2 Pw hM sS rI)
 refine cx rU ?_;dsimp only[adR] at hM;refine au fun K21 Lb=>?_;refine kZ [0] 19 ?_;refine fz 0 0 ?_;refine zm 2 ?_;refine zm 3 ?_;refine AX 4 1 (kG b0.tracks aV.2.1) hM fun Ny Ls hM=>?_;refine zm 6 ?_;refine zm 7 ?_;refine zm 8 ?_;refine aI 9 rfl (dL 1 (kG b0.tracks aV.2.1) (iS Ls)) ?_;refine aI 10 rfl (dY 0 (kG b0.tracks aV.2.1) (fun _=>Ls)) ?_;refine aI 11 rfl jq ?_;obtain⟨an1,hM⟩:=bQ hM;refine aI 12 rfl (Au (hq:=fun hg=>of_decide_eq_true an1)) ?_;obtain⟨oV,zO,hM⟩:=bind_some hM;refine aI 13 rfl (dL 1 ((Sk.elem (Sk.dw (α:=List (List Int)) (r:=aV.2.1) (x:=b0.tracks) hA) Ls)).kn (iS zO)) ?_;refine aI 14 rfl (dY 0 ((Sk.elem (Sk.dw (α:=List (List Int)) (r:=aV.2.1) (x:=b0.tracks) hA) Ls)).kn (fun _=>zO)) ?_;refine aI 15 rfl (dO [vI oV,vI 1]) ?_
 refine cK 16 rfl (fI (α:=Step) 92 (fun _=>()) ([(Step.mk oV 1)]:List Step) oF (fun r58=>⟨rI,?_⟩));obtain⟨aoP,hM⟩:=bQ hM;refine cK 17 rfl (iq (r:=Af) (r2:=r58) uR (Kn.aj (e:=92) (r:=r58) hA) oF (of_decide_eq_true aoP) (fun ZE=>⟨rI,?_⟩));refine aI 18 rfl (aY 0) ?_;refine iX rfl (sO ?_);refine iW (Lb _ _ ?_);refine sr ?_;refine oe fC ?_;refine oS b1 [.slice ZE.a ((nU++([(Step.mk oV 1)]:List Step)).length) ZE.cap,vI 0] ?_;refine on ?_;obtain rfl:=some_inj hM;refine aF (eG (fun w hm=>bR ZE hm rfl))
def Ov(qc:List bW)(mG:List aG)(y22:aG)(CF:Int)(dI:Nat)(eU:(Int×(List aG)×(List bW)×Nat)→Option (Int×(List aG)×(List Line))):(Int×Int×Int)→Option (Int×(List aG)×(List Line)):=fun (Rx,MF,MG)=>
 aO (decide ((qc.length+([(bW.mk (((mG++([y22]:List aG)).length:Int)-1) CF MF MG)]:List bW).length)*32≤140737488355328))<|
 aO (aX ((dI:Int)+1))<|
 eU (Rx,(mG++([y22]:List aG)),(qc++([(bW.mk (((mG++([y22]:List aG)).length:Int)-1) CF MF MG)]:List bW)),dI+1)
def Y5(dI:Nat)(sI:Int)(s0:bN)(qc:List bW)(mG:List aG)(y22:aG)(eU:(Int×(List aG)×(List bW)×Nat)→Option (Int×(List aG)×(List Line))):(Int×Int)→Option (Int×(List aG)×(List Line)):=fun (KI,CF)=>
 aO (aX ((dI:Int)+1))<|
 if decide (((dI:Int)+1)<sI) then
  ((jY (bN.mk s0.l KI) 6).bind fun y34=>
  aO (aX (5+y34.1))<|
  (jY (bN.mk s0.l y34.2) 4).bind fun y38=>
  aO (aX ((5+y34.1)+y38.1))<|
  Ov qc mG y22 CF dI eU (y38.2,(5+y34.1),((5+y34.1)+y38.1)))
 else
  (Ov qc mG y22 CF dI eU (KI,0,0))
def Ou(sG:List Int)(b0:dB)(tq:Bool)(mG:List aG)(s0:bN)(lu:Int)(dI:Nat)(sI:Int)(qc:List bW)(eU:(Int×(List aG)×(List bW)×Nat)→Option (Int×(List aG)×(List Line))):Int→Option (Int×(List aG)×(List Line)):=fun Gm=>
 (idx sG Gm).bind fun kr=>
 aO (aX (Gm+1))<|
 (idx sG (Gm+1)).bind fun x20=>
 (Gq b0 Gm kr x20 tq).bind fun y22=>
 aO (decide ((mG.length+([y22]:List aG).length)*32≤140737488355328))<|
 aO (aX (((mG++([y22]:List aG)).length:Int)-1))<|
 (jY (bN.mk s0.l lu) 3).bind fun HV=>
 Y5 dI sI s0 qc mG y22 eU (HV.2,HV.1)
def adN(p0:Plan)(y1:Str)(y3:Int×Int)(qc:List bW)(lu:Int)(mG:List aG):Unit→Option (Int×(List aG)×(List Line)):=fun _=>
 aO (decide ((p0.Lines.length+([(Line.mk y1 0 y3.1 qc)]:List Line).length)*56≤140737488355328))<|
 some (lu,mG,(p0.Lines++([(Line.mk y1 0 y3.1 qc)]:List Line)))
def adL(sI:Int)(tq:Bool)(sG:List Int)(b0:dB)(s0:bN)(p0:Plan)(y1:Str)(y3:Int×Int)(eU:(Int×(List aG)×(List bW)×Nat)→Option (Int×(List aG)×(List Line))):(Int×(List aG)×(List bW)×Nat)→Option (Int×(List aG)×(List Line)):=fun (lu,mG,qc,dI)=>
 if decide ((dI:Int)<sI) then
  (if (!tq) then
   (aO (aX (sI-1))<|
   aO (aX ((sI-1)-(dI:Int)))<|
   Ou sG b0 tq mG s0 lu dI sI qc eU ((sI-1)-(dI:Int)))
  else
   (Ou sG b0 tq mG s0 lu dI sI qc eU (dI:Int)))
 else
  (adN p0 y1 y3 qc lu mG ())
def adM(sI:Int)(tq:Bool)(sG:List Int)(b0:dB)(s0:bN)(p0:Plan)(y1:Str)(y3:Int×Int)(oZ:Int):Unit→Option (Int×(List aG)×(List Line)):=fun _=>
 iter (adL sI tq sG b0 s0 p0 y1 y3) FUEL (oZ,p0.Routes,([]:List bW),0)
def adK(s0:bN)(sI:Int)(tq:Bool)(b0:dB)(p0:Plan)(y1:Str)(y3:Int×Int)(aK:(Int×(List Int)×Nat)→Option (Int×(List aG)×(List Line))):(Int×(List Int)×Nat)→Option (Int×(List aG)×(List Line)):=fun (oZ,sG,Hg)=>
 if decide ((Hg:Int)<3) then
  ((jY (bN.mk s0.l oZ) 2).bind fun iw=>
  (idx sG (Hg:Int)).bind fun gK=>
  aK (iw.2,(sG.set (Hg:Int).toNat iw.1),Hg+1))
 else
  (adM sI tq sG b0 s0 p0 y1 y3 oZ ())
def TU(b0:dB)(s0:bN)(p0:Plan)(tq:Bool)(sI:Int):Option (Int×(List aG)×(List Line)):=
 (DV (⟨[78]⟩:Str) (p0.Lines.length:Int)).bind fun y1=>
 (jY s0 4).bind fun y3=>
 iter (adK s0 sI tq b0 p0 y1 y3) FUEL (y3.2,(List.replicate 3 0),0)
theorem asj(S:aW)(w:World)(kR:Nat)(b0:dB)(aV:ah.R dB)(iE:Nat)(s0:bN)(dh:ah.R bN)(jd:Nat)(p0:Plan)(av:ah.R Plan)(tq:Bool)(sI:Int)(y:Int×(List aG)×(List Line))(hM:TU b0 s0 p0 tq sI=some y)(hP:Pre S [own iE 136 (D8 s0 dh),own jd 35 (kX p0 av),aj 71 av.1 p0.aP,aj 90 av.2.1 p0.Routes,aj 56 av.2.2.1 p0.Lines,aj 79 av.2.2.2.1 p0.Changes,aj 94 av.2.2.2.2.1 p0.Turns,aj 84 av.2.2.2.2.2.1 p0.bB,aj 86 av.2.2.2.2.2.2 p0.bA] w)(acP:S kR∧w.heap[kR]?=some (.cells (Ea b0 aV).toArray 76 (0,0)))(mY:ah.ok S w aV b0)(Gi:ah.ok (α:=List Int) S w dh s0.l):
   Calls Tryz.prog 28 #[vP kR,vP iE,vP jd,.bool tq,vI sI] w (Post (β:=(SR (ah.R aG))×(SR (ah.R Line))) S [own iE 136 (D8 s0 dh),own jd 35 (kX p0 av),aj 71 av.1 p0.aP,aj 90 av.2.1 p0.Routes,aj 56 av.2.2.1 p0.Lines,aj 79 av.2.2.2.1 p0.Changes,aj 94 av.2.2.2.2.1 p0.Turns,aj 84 av.2.2.2.2.2.1 p0.bB,aj 86 av.2.2.2.2.2.2 p0.bA] (fun g=> .tuple #[]) (fun g=>[own iE 136 [sL dh s0.l,vI y.1],own jd 35 [vI p0.bJ,sL av.1 p0.aP,sL g.1 y.2.1,sL g.2 y.2.2,sL av.2.2.2.1 p0.Changes,sL av.2.2.2.2.1 p0.Turns,sL av.2.2.2.2.2.1 p0.bB,sL av.2.2.2.2.2.2 p0.bA],aj 71 av.1 p0.aP,aj 90 g.1 y.2.1,aj 56 g.2 y.2.2,aj 79 av.2.2.2.1 p0.Changes,aj 94 av.2.2.2.2.1 p0.Turns,aj 84 av.2.2.2.2.2.1 p0.bB,aj 86 av.2.2.2.2.2.2 p0.bA]) w):=by
 refine bF (args:=[_,_,_,_,_]) Tryz.func28 rfl (hP.start |>.mJ acP|>.je mY.1|>.bG mY.2.1|>.bG mY.2.2.1|>.bG mY.2.2.2|>.bG Gi) rfl ?_;unfold TU at hM;refine aR ?_;refine oe dF ?_;refine fo 3 ?_;refine oe jq ?_;obtain⟨y1,hy2,hM⟩:=bind_some hM;refine cv (fun hs=>LK _ _ (⟨[78]⟩:Str) (p0.Lines.length:Int) y1 hy2 (aM hs)) ?_;refine om ?_;obtain⟨y3,hy4,hM⟩:=bind_some hM;refine bf (fu sA (fun S w hs hP=>iI _ w iE s0 dh 4 y3 hy4 hP (kM hs)) fG (fun r5=>?_));dsimp only[cA,nA];refine oe (dO [.string y1.ba,vI 0,vI y3.1,z0]) ?_;refine oA rfl fun b6=>?_;refine oS b6 [.string y1.ba,vI 0,vI y3.1,z0] ?_
 refine on ?_;refine sr ?_;refine oA rfl fun b7=>?_;refine z8 (fun w hm=>hm.arr (α:=Int) (b:=b7) (T:=142) (m:=3) (x0:=0) (rz:=()) rfl (fun _ _=>trivial) (by decide) uA) ?_;refine on ?_;refine au fun K3 hK3=>?_;refine aR ?_;refine on ?_;refine bI ?_;refine rn bW 58 (fun _=>()) ?_;refine lk hM [0,1,2,3,4,10,11] (fun (oZ,sG,Hg)=>[(25,eI (Hg:Int))]) [1,1] (fun (oZ,sG,Hg)=>[own iE 136 [sL dh s0.l,vI oZ],aj 142 (⟨some ⟨b7,0,none⟩,3,fun _=>()⟩:SR (ah.R Int)) sG]) ?_;clear hM;rintro aK ⟨oZ,sG,Hg⟩ hM eO hL1;dsimp only[adK,cA,nA] at hM ⊢;refine sr ?_;refine oe gq ?_;refine on ?_;refine au fun K6 dG=>?_;refine co hM (fun qY hM=>?_) (fun qY hM=>?_)
 ·have axq:=of_decide_eq_true qY;refine cs dG ?_;refine au fun K7 gu=>?_;refine bI ?_;refine aR ?_;refine aN ?_;refine bg ?_;refine om ?_;refine om ?_;obtain⟨iw,su,hM⟩:=bind_some hM;refine bf (fu sA (fun S w hs hP=>iI _ w iE (bN.mk s0.l oZ) dh 2 iw su hP (kM hs)) fG (fun Jq=>?_));dsimp only[cA,nA];obtain⟨gK,uw,hM⟩:=bind_some hM;refine oe (KS (r:=(⟨some ⟨b7,0,none⟩,3,fun _=>()⟩:SR (ah.R Int))) (xs:=sG) 1 (Kn.aj (e:=142) (r:=(⟨some ⟨b7,0,none⟩,3,fun _=>()⟩:SR (ah.R Int))) hA) (iS uw)) ?_;refine bf (Nf (r:=(⟨some ⟨b7,0,none⟩,3,fun _=>()⟩:SR (ah.R Int))) (i:=(Hg:Int)) (xs:=sG) (u:=gK) (vs:=[vI iw.1]) 0 iw.1 uw rfl (fun _ _ h=>h) uA ?_);have Lm:=Gn (u:=iw.1) uw;refine bq (gu _ _ ?_);refine bg ?_;refine oe (dP (hr:=fun _=>by unfold gN;omega)) ?_;refine om ?_;refine bq (hL1 hM sS rI)
 refine cx hK3 ?_;dsimp only[adM] at hM;refine au fun K9 fH=>?_;refine aJ ?_;refine bI ?_;refine lr (av.2.1,l7) hM [0,1,2,3,4,10,11] (fun (lu,mG,qc,dI) (PG,G5)=>[(13,eI (dI:Int))]) [0,1,0,9,1] (fun (lu,mG,qc,dI) (PG,G5)=>[own iE 136 [sL dh s0.l,vI lu],aj 90 PG mG,own jd 35 [vI p0.bJ,sL av.1 p0.aP,sL PG mG,sL av.2.2.1 p0.Lines,sL av.2.2.2.1 p0.Changes,sL av.2.2.2.2.1 p0.Turns,sL av.2.2.2.2.2.1 p0.bB,sL av.2.2.2.2.2.2 p0.bA],aj 58 G5 qc,own b6 56 [.string y1.ba,vI 0,vI y3.1,sL G5 qc]]) ?_;clear hM;rintro eU ⟨lu,mG,qc,dI⟩ ⟨PG,G5⟩ hM xA hL2;dsimp only[adL,cA,nA] at hM ⊢;refine au fun nG gH=>?_;refine aR ?_;refine om ?_;refine oe gq ?_;refine oc hM (fun hc16 hM=>?_) (fun hc16 hM=>?_)
 ·refine cs gH ?_;refine au fun zA nR=>?_;refine bI ?_;refine aR ?_;refine aN ?_;refine jl y (k:=Ou sG b0 tq mG s0 lu dI sI qc eU) [0,1,2,3,4,10,11,13] (fun Gm=>[(14,eI Gm)]) [] (fun Gm=>[]) ?_ ?_
  · intro FR hJ3;refine aR ?_;refine oe iC ?_;refine oc hM (fun ao3 hM=>?_) (fun ao3 hM=>?_)
    ·refine bg ?_;refine om ?_;refine oN hM fun hM=>?_;refine om ?_;refine oN hM fun hM=>?_;refine oa ?_;refine bq (hJ3 hM sS rI)
    refine gG (hJ3 hM sS rI)
  clear hM;rintro Gm hM;dsimp only[Ou,cA,nA] at hM ⊢;refine au fun Dn qF=>?_;refine kZ [1] 20 ?_;refine zm 0 ?_;refine zm 1 ?_;refine aI 2 rfl dF ?_;refine fz 3 2 ?_;refine zm 5 ?_;refine zm 6 ?_;refine zm 7 ?_;obtain⟨kr,AU,hM⟩:=bind_some hM;refine aI 8 rfl (KS (r:=(⟨some ⟨b7,0,none⟩,3,fun _=>()⟩:SR (ah.R Int))) (xs:=sG) 1 (Kn.aj (e:=142) (r:=(⟨some ⟨b7,0,none⟩,3,fun _=>()⟩:SR (ah.R Int))) hA) (iS AU)) ?_;refine aI 9 rfl (dY 0 (Kn.aj (e:=142) (r:=(⟨some ⟨b7,0,none⟩,3,fun _=>()⟩:SR (ah.R Int))) hA) (fun _=>AU)) ?_;refine zm 10 ?_;obtain⟨acv,hM⟩:=bQ hM;refine aI 11 rfl (dP (hr:=fun hg=>dU acv)) ?_;obtain⟨x20,DJ,hM⟩:=bind_some hM;refine aI 12 rfl (KS (r:=(⟨some ⟨b7,0,none⟩,3,fun _=>()⟩:SR (ah.R Int))) (xs:=sG) 1 (Kn.aj (e:=142) (r:=(⟨some ⟨b7,0,none⟩,3,fun _=>()⟩:SR (ah.R Int))) hA) (iS DJ)) ?_;refine aI 13 rfl (dY 0 (Kn.aj (e:=142) (r:=(⟨some ⟨b7,0,none⟩,3,fun _=>()⟩:SR (ah.R Int))) hA) (fun _=>DJ)) ?_;refine zm 14 ?_;obtain⟨y22,uD,hM⟩:=bind_some hM;refine cK 15 rfl (fu iO.nil (fun S w hs hP=>asn _ w kR b0 aV Gm kr x20 tq y22 uD (aM hs) (uM hA hs) ⟨⟨(kM hs),(kM hs),(kM hs),(kM hs)⟩,(kM hs),(kM hs),(kM hs)⟩) fG (fun qy=>⟨rI,?_⟩))
  dsimp only[cA,nA];refine vg (fun w hm=>hm.freeze (r:=qy) uA) ?_;refine cK 16 rfl (fI (α:=aG) 90 (fun _=>qy) ([y22]:List aG) (jV.cons (fun S w hs=>(kI hs)) jV.nil) (fun CB=>⟨rI,?_⟩));obtain⟨aoG,hM⟩:=bQ hM;refine cK 17 rfl (iq (r:=PG) (r2:=CB) uR (Kn.aj (e:=90) (r:=CB) hA) (jV.row (e:=90) (r:=CB) hA) (of_decide_eq_true aoG) (fun Pv=>⟨rI,?_⟩));refine aI 18 rfl dF ?_;refine aI 19 rfl (aY 2) ?_;refine iX rfl (sO ?_);refine iW (qF _ _ ?_);refine jk Nat y (k:=Y5 dI sI s0 qc mG y22 eU) [0,1,2,3,4,10,11,13] (fun (KI,CF) RG=>[(15,eP RG)]) [0,0,0] (fun (KI,CF) RG=>[own iE 136 [sL dh s0.l,vI KI],own RG 58 [vI (((mG++([y22]:List aG)).length:Int)-1),vI CF,vI 0,vI 0]]) ?_ ?_
  · intro Xq yK;refine dS [aj 90 CB ([y22]:List aG),iL y22.Steps qy,aj 90 Pv (mG++([y22]:List aG)),own jd 35 [vI p0.bJ,sL av.1 p0.aP,.slice Pv.a ((mG++([y22]:List aG)).length) Pv.cap,sL av.2.2.1 p0.Lines,sL av.2.2.2.1 p0.Changes,sL av.2.2.2.2.1 p0.Turns,sL av.2.2.2.2.2.1 p0.bB,sL av.2.2.2.2.2.2 p0.bA],aj 58 G5 qc,own b6 56 [.string y1.ba,vI 0,vI y3.1,sL G5 qc],aj 142 (⟨some ⟨b7,0,none⟩,3,fun _=>()⟩:SR (ah.R Int)) sG,iL s0.l dh,iL b0.jU aV.2.2.2,iL b0.between aV.2.2.1,iL b0.tracks aV.2.1,iL b0.l.Links aV.1.2.2.2,iL b0.l.Sections aV.1.2.2.1,iL b0.l.bE aV.1.2.1,iL b0.l.aT aV.1.1,CK kR 76 (Ea b0 aV),aj 71 av.1 p0.aP,aj 56 av.2.2.1 p0.Lines,aj 79 av.2.2.2.1 p0.Changes,aj 94 av.2.2.2.2.1 p0.Turns,aj 84 av.2.2.2.2.2.1 p0.bB,aj 86 av.2.2.2.2.2.2 p0.bA] (by repeat (first|exact List.Sublist.refl _|apply List.Sublist.cons_cons|apply List.Sublist.cons)) ?_
    refine am 0 ?_;refine ay 1 rfl dF ?_;refine fa 2 2 ?_;refine ay 4 rfl jq ?_;obtain⟨anY,hM⟩:=bQ hM;refine ay 5 rfl (pW (hr:=fun hg=>dU anY)) ?_;refine am 6 ?_;obtain⟨HV,ahH,hM⟩:=bind_some hM;refine jA 7 9 (⟨_,rfl,rfl,fu sA (fun S w hs hP=>iI _ w iE (bN.mk s0.l lu) dh 3 HV ahH hP (kM hs)) fG (fun r45=>⟨rI,?_⟩)⟩) (⟨_,rfl,rfl,gU rfl (k:=fun b46=>⟨rI,?_⟩)⟩)
    ·dsimp only[cA,nA];refine ay 8 rfl (dO [vI (((mG++([y22]:List aG)).length:Int)-1),vI HV.1,vI 0,vI 0]) ?_;refine aA 9 rfl rfl fun b47=>?_;refine aS 10 rfl b47 [vI (((mG++([y22]:List aG)).length:Int)-1),vI HV.1,vI 0,vI 0] ?_;refine bS (yK b47 hM sS rI)
    refine bT 7 rfl (fu sA (fun S w hs hP=>iI _ w iE (bN.mk s0.l lu) dh 3 HV ahH hP (kM hs)) fG (fun r48=>⟨rI,?_⟩));dsimp only[cA,nA];refine ay 8 rfl (dO [vI (((mG++([y22]:List aG)).length:Int)-1),vI HV.1,vI 0,vI 0]) ?_;refine aS 10 rfl b46 [vI (((mG++([y22]:List aG)).length:Int)-1),vI HV.1,vI 0,vI 0] ?_;refine bS (yK b46 hM sS rI)
  clear hM;rintro⟨KI,CF⟩ RG hM;dsimp only[Y5,cA,nA] at hM ⊢;refine jl y (k:=Ov qc mG y22 CF dI eU) [0,1,2,3,4,10,11,13,15] (fun (Rx,MF,MG)=>[]) [0,0] (fun (Rx,MF,MG)=>[own iE 136 [sL dh s0.l,vI Rx],own RG 58 [vI (((mG++([y22]:List aG)).length:Int)-1),vI CF,vI MF,vI MG]]) ?_ ?_
  · intro Xr zL;refine aR ?_;refine oP hM fun hM=>?_;refine om ?_;refine oe gq ?_;refine oc hM (fun SE hM=>?_) (fun SE hM=>?_)
    ·refine aR ?_;obtain⟨y34,Cm,hM⟩:=bind_some hM;refine bf (fu sA (fun S w hs hP=>iI _ w iE (bN.mk s0.l KI) dh 6 y34 Cm hP (kM hs)) fG (fun ZB=>?_));dsimp only[cA,nA];refine oP hM fun hM=>?_;refine oe (aY 2) ?_;refine kY ?_;refine on ?_;refine kZ [0] 6 ?_;refine fz 0 2 ?_;refine zm 2 ?_;obtain⟨y38,hy39,hM⟩:=bind_some hM;refine cK 3 rfl (fu sA (fun S w hs hP=>iI _ w iE (bN.mk s0.l y34.2) dh 4 y38 hy39 hP (kM hs)) fG (fun Js=>⟨rI,?_⟩));dsimp only[cA,nA];obtain⟨anX,hM⟩:=bQ hM;refine aI 4 rfl (dP (hr:=fun hg=>dU anX)) ?_;refine aI 5 rfl (aY 3) ?_;refine iX rfl (sO ?_);refine iW (zL hM sS rI)
    refine gG (zL hM sS rI)
  clear hM;rintro⟨Rx,MF,MG⟩ hM;dsimp only[Ov,cA,nA] at hM ⊢;refine bg ?_;refine fo 3 ?_;refine oe fC ?_;refine bf (fI (α:=bW) 58 (fun _=>()) ([(bW.mk (((mG++([y22]:List aG)).length:Int)-1) CF MF MG)]:List bW) oF (fun Jr=>?_));obtain⟨acM,hM⟩:=bQ hM;refine bf (iq (r:=G5) (r2:=Jr) uR (Kn.aj (e:=58) (r:=Jr) hA) oF (of_decide_eq_true acM) (fun U1=>?_));refine oe (aY 3) ?_;refine kY ?_;refine bq (nR _ _ ?_);refine bg ?_;refine om ?_;refine oP hM fun hM=>?_;refine oa ?_;refine bq (hL2 (Pv,U1) hM sS rI)
 refine cx fH ?_;dsimp only[adN] at hM;refine kZ [3,12] 10 ?_;refine zm 0 ?_;refine zm 1 ?_;refine aI 2 rfl dF ?_;refine fz 3 3 ?_;refine aI 5 rfl fC ?_;refine vg (fun w hm=>hm.freeze (r:=G5) uA) ?_;refine cK 6 rfl (fI (α:=Line) 56 (fun _=>G5) ([(Line.mk y1 0 y3.1 qc)]:List Line) (jV.cons (fun S w hs=>(kI hs)) jV.nil) (fun ME=>⟨rI,?_⟩));obtain⟨aoN,hM⟩:=bQ hM;refine cK 7 rfl (iq (r:=av.2.2.1) (r2:=ME) uR (Kn.aj (e:=56) (r:=ME) hA) (jV.row (e:=56) (r:=ME) hA) (of_decide_eq_true aoN) (fun r53=>⟨rI,?_⟩));refine aI 8 rfl dF ?_;refine aI 9 rfl (aY 3) ?_;refine iX rfl (sO ?_);obtain rfl:=some_inj hM;refine iW (DW rfl (fun w hm=>bR (PG,r53) hm rfl))
def LU(p0:Plan)(eD:Int)(GX:Int):Option Int:=
 (idx p0.Lines eD).bind fun x2=>
 (idx x2.bD GX).bind fun x4=>
 (idx p0.Routes x4.aG).bind fun x6=>
 aO (aX ((x6.Steps.length:Int)-1))<|
 (idx x6.Steps ((x6.Steps.length:Int)-1)).bind fun x10=>
 some x10.Section
theorem ah3(S:aW)(w:World)(p0:Plan)(av:ah.R Plan)(eD:Int)(GX:Int)(y:Int)(hM:LU p0 eD GX=some y)(hS:sB S w)(eF:ah.ok S w av p0):
  Calls Tryz.prog 30 #[.agg (jI p0 av),vI eD,vI GX] w (bM w (vI y)):=by
 refine bF (args:=[_,_,_]) Tryz.func30 rfl ((pre_nil hS).start |>.jZ eF) rfl ?_;unfold LU at hM;refine sr ?_;refine oB (kX p0 av) fun b1=>?_;refine aN ?_;refine au fun K2 hK2=>?_;refine dS _ (List.Sublist.refl _) ?_;refine fa 0 2 ?_;refine fa 2 3 ?_;refine am 4 ?_;obtain⟨x2,hx3,hM⟩:=bind_some hM
 refine ay 5 rfl (dL 4 (kG p0.Lines av.2.2.1) (iS hx3)) ?_;refine ay 6 rfl (aY 3) ?_;refine ay 7 rfl (dY 3 (kG p0.Lines av.2.2.1) (fun _=>hx3)) ?_;refine am 8 ?_;obtain⟨x4,hx5,hM⟩:=bind_some hM;refine ay 9 rfl (dL 4 ((Sk.elem (Sk.dw (α:=List Line) (r:=av.2.2.1) (x:=p0.Lines) hA) hx3)).kn (iS hx5)) ?_;refine ay 10 rfl (aY 0) ?_;refine ay 11 rfl (dY 0 ((Sk.elem (Sk.dw (α:=List Line) (r:=av.2.2.1) (x:=p0.Lines) hA) hx3)).kn (fun _=>hx5)) ?_;refine kH 12 2 2 (fun x6=>(nV x6 (av.2.1.es x4.aG.toNat))) (kG p0.Routes av.2.1) hM fun x6 hx7 hM=>?_;refine aA 14 rfl rfl fun b8=>?_;refine aS 15 rfl b8 (nV x6 (av.2.1.es x4.aG.toNat)) ?_;refine bS (hK2 _ _ ?_);refine sr ?_;refine oe (aY 0) ?_
 refine oe gZ ?_;refine fo 0 ?_;refine oe jq ?_;refine oN hM fun hM=>?_;obtain⟨x10,AQ,hM⟩:=bind_some hM;refine oe (dL 2 ((Sk.elem (Sk.dw (α:=List aG) (r:=av.2.1) (x:=p0.Routes) hA) hx7)).kn (iS AQ)) ?_;refine oe (aY 0) ?_;refine oe (dY 0 ((Sk.elem (Sk.dw (α:=List aG) (r:=av.2.1) (x:=p0.Routes) hA) hx7)).kn (fun _=>AQ)) ?_;refine aN ?_;exact aF (aZ hM)
def LQ(p0:Plan)(eD:Int)(GX:Int):Option Int:=
 (idx p0.Lines eD).bind fun x2=>
 (idx x2.bD GX).bind fun x4=>
 (idx p0.Routes x4.aG).bind fun x6=>
 (idx x6.Steps 0).bind fun x8=>
 some x8.Section
theorem ah2(S:aW)(w:World)(p0:Plan)(av:ah.R Plan)(eD:Int)(GX:Int)(y:Int)(hM:LQ p0 eD GX=some y)(hS:sB S w)(eF:ah.ok S w av p0):
  Calls Tryz.prog 31 #[.agg (jI p0 av),vI eD,vI GX] w (bM w (vI y)):=by
 refine bF (args:=[_,_,_]) Tryz.func31 rfl ((pre_nil hS).start |>.jZ eF) rfl ?_;unfold LQ at hM;refine sr ?_;refine oB (kX p0 av) fun b1=>?_;refine aN ?_;refine au fun K2 hK2=>?_;refine dS _ (List.Sublist.refl _) ?_;refine fa 0 2 ?_;refine fa 2 3 ?_;refine am 4 ?_;obtain⟨x2,hx3,hM⟩:=bind_some hM
 refine ay 5 rfl (dL 4 (kG p0.Lines av.2.2.1) (iS hx3)) ?_;refine ay 6 rfl (aY 3) ?_;refine ay 7 rfl (dY 3 (kG p0.Lines av.2.2.1) (fun _=>hx3)) ?_;refine am 8 ?_;obtain⟨x4,hx5,hM⟩:=bind_some hM;refine ay 9 rfl (dL 4 ((Sk.elem (Sk.dw (α:=List Line) (r:=av.2.2.1) (x:=p0.Lines) hA) hx3)).kn (iS hx5)) ?_;refine ay 10 rfl (aY 0) ?_;refine ay 11 rfl (dY 0 ((Sk.elem (Sk.dw (α:=List Line) (r:=av.2.2.1) (x:=p0.Lines) hA) hx3)).kn (fun _=>hx5)) ?_;refine iQ 12 2 0 (kG p0.Routes av.2.1) hM fun x6 hx7 hM=>?_;obtain⟨x8,Ta,hM⟩:=bind_some hM;refine ay 15 rfl (dL 2 ((Sk.elem (Sk.dw (α:=List aG) (r:=av.2.1) (x:=p0.Routes) hA) hx7)).kn (iS Ta)) ?_;refine ay 16 rfl (aY 0) ?_;refine ay 17 rfl (dY 0 ((Sk.elem (Sk.dw (α:=List aG) (r:=av.2.1) (x:=p0.Routes) hA) hx7)).kn (fun _=>Ta)) ?_;refine ay 18 rfl eX ?_;refine bS (hK2 _ _ ?_)
 exact aF (aZ hM)
def LV(eU:(Int×(List Turn)×(List Bool)×(List Bool)×Nat)→Option (Int×(List Turn)))(sU:Nat):(Int×(List Turn)×(List Bool)×(List Bool))→Option (Int×(List Turn)):=fun (Rw,OA,Uj,Un)=>
 eU (Rw,OA,Uj,Un,sU+1)
def ad1(aK:(Int×(List Turn)×(List Bool)×(List Bool)×Nat)→Option (Int×(List Turn)))(lu:Int)(vF:List Turn)(xQ:List Bool)(xU:List Bool)(sQ:Nat):Unit→Option (Int×(List Turn)):=fun _=>
 aK (lu,vF,xQ,xU,sQ+1)
def adZ(p0:Plan)(s0:bN)(sQ:Nat)(aK:(Int×(List Turn)×(List Bool)×(List Bool)×Nat)→Option (Int×(List Turn)))(eU:(Int×(List Turn)×(List Bool)×(List Bool)×Nat)→Option (Int×(List Turn))):(Int×(List Turn)×(List Bool)×(List Bool)×Nat)→Option (Int×(List Turn)):=fun (lu,vF,xQ,xU,sU)=>
 if decide ((sU:Int)<(p0.Lines.length:Int)) then
  ((jY (bN.mk s0.l lu) 3).bind fun y7=>
  (dH (decide (0<y7.1)) default (idx xQ (sQ:Int))).bind fun x10=>
  (dH (decide (0<y7.1)&&(!x10)) default (idx xU (sU:Int))).bind fun lS=>
  (dH ((decide (0<y7.1)&&(!x10))&&(!lS)) default (idx p0.Lines (sQ:Int))).bind fun qm=>
  if ((decide (0<y7.1)&&(!x10))&&(!lS)) then
  (aO (aX ((qm.bD.length:Int)-1))<|
  (LU (Plan.mk p0.bJ p0.aP p0.Routes p0.Lines p0.Changes vF p0.bB p0.bA) (sQ:Int) ((qm.bD.length:Int)-1)).bind fun uX=>
  (LQ (Plan.mk p0.bJ p0.aP p0.Routes p0.Lines p0.Changes vF p0.bB p0.bA) (sU:Int) 0).bind fun y21=>
  if (((decide (0<y7.1)&&(!x10))&&(!lS))&&decide (uX=y21)) then
   ((idx xQ (sQ:Int)).bind fun x24=>
   (idx xU (sU:Int)).bind fun x27=>
   (jY (bN.mk s0.l y7.2) 10).bind fun lI=>
   aO (aX (10+lI.1))<|
   (jY (bN.mk s0.l lI.2) 30).bind fun y34=>
   aO (aX ((10+lI.1)+y34.1))<|
   aO (decide ((vF.length+([(Turn.mk (sQ:Int) (sU:Int) (10+lI.1) ((10+lI.1)+y34.1))]:List Turn).length)*32≤140737488355328))<|
   LV eU sU (y34.2,(vF++([(Turn.mk (sQ:Int) (sU:Int) (10+lI.1) ((10+lI.1)+y34.1))]:List Turn)),(xQ.set (sQ:Int).toNat true),(xU.set (sU:Int).toNat true)))
  else
   (LV eU sU (y7.2,vF,xQ,xU)))
  else
  (LV eU sU (y7.2,vF,xQ,xU)))
 else
  (ad1 aK lu vF xQ xU sQ ())
def adY(p0:Plan)(s0:bN)(aK:(Int×(List Turn)×(List Bool)×(List Bool)×Nat)→Option (Int×(List Turn))):(Int×(List Turn)×(List Bool)×(List Bool)×Nat)→Option (Int×(List Turn)):=fun (oZ,LY,Ui,Um,sQ)=>
 if decide ((sQ:Int)<(p0.Lines.length:Int)) then
  (iter (adZ p0 s0 sQ aK) FUEL (oZ,LY,Ui,Um,0))
 else
  (some (oZ,LY))
def Uc(s0:bN)(p0:Plan):Option (Int×(List Turn)):=
 iter (adY p0 s0) FUEL (s0.i,p0.Turns,(List.replicate 4 false),(List.replicate 4 false),0)
theorem asq(S:aW)(w:World)(iE:Nat)(s0:bN)(dh:ah.R bN)(jd:Nat)(p0:Plan)(av:ah.R Plan)(y:Int×(List Turn))(hM:Uc s0 p0=some y)(hP:Pre S [own iE 136 (D8 s0 dh),own jd 35 (kX p0 av),aj 71 av.1 p0.aP,aj 90 av.2.1 p0.Routes,aj 56 av.2.2.1 p0.Lines,aj 79 av.2.2.2.1 p0.Changes,aj 94 av.2.2.2.2.1 p0.Turns,aj 84 av.2.2.2.2.2.1 p0.bB,aj 86 av.2.2.2.2.2.2 p0.bA] w)(Gi:ah.ok (α:=List Int) S w dh s0.l):
   Calls Tryz.prog 29 #[vP iE,vP jd] w (Post (β:=(SR (ah.R Turn))) S [own iE 136 (D8 s0 dh),own jd 35 (kX p0 av),aj 71 av.1 p0.aP,aj 90 av.2.1 p0.Routes,aj 56 av.2.2.1 p0.Lines,aj 79 av.2.2.2.1 p0.Changes,aj 94 av.2.2.2.2.1 p0.Turns,aj 84 av.2.2.2.2.2.1 p0.bB,aj 86 av.2.2.2.2.2.2 p0.bA] (fun g=> .tuple #[]) (fun g=>[own iE 136 [sL dh s0.l,vI y.1],own jd 35 [vI p0.bJ,sL av.1 p0.aP,sL av.2.1 p0.Routes,sL av.2.2.1 p0.Lines,sL av.2.2.2.1 p0.Changes,sL g y.2,sL av.2.2.2.2.2.1 p0.bB,sL av.2.2.2.2.2.2 p0.bA],aj 71 av.1 p0.aP,aj 90 av.2.1 p0.Routes,aj 56 av.2.2.1 p0.Lines,aj 79 av.2.2.2.1 p0.Changes,aj 94 g y.2,aj 84 av.2.2.2.2.2.1 p0.bB,aj 86 av.2.2.2.2.2.2 p0.bA]) w):=by
 refine bF (args:=[_,_]) Tryz.func29 rfl (hP.start |>.bG Gi) rfl ?_;unfold Uc at hM;refine sr ?_;refine oA rfl fun b1=>?_;refine z8 (fun w hm=>hm.arr (α:=Bool) (b:=b1) (T:=144) (m:=4) (x0:=false) (rz:=()) rfl (fun _ _=>trivial) (by decide) uA) ?_;refine oA rfl fun b2=>?_;refine z8 (fun w hm=>hm.arr (α:=Bool) (b:=b2) (T:=144) (m:=4) (x0:=false) (rz:=()) rfl (fun _ _=>trivial) (by decide) uA) ?_;refine on ?_;refine aR ?_;refine oe dF ?_;refine fo 3 ?_;refine kK (fun w hm=>Kn.len (Kn.aj (e:=56) (r:=av.2.2.1) hA) hm) fun hl3=>?_;refine oe jq ?_;refine om ?_;refine on ?_;refine bI ?_;refine lr av.2.2.2.2.1 hM [0,1,4,5,13] (fun (oZ,LY,Ui,Um,sQ) PE=>[(14,eI (sQ:Int))]) [0,0,1,0,4] (fun (oZ,LY,Ui,Um,sQ) PE=>[own iE 136 [sL dh s0.l,vI oZ],aj 94 PE LY,own jd 35 [vI p0.bJ,sL av.1 p0.aP,sL av.2.1 p0.Routes,sL av.2.2.1 p0.Lines,sL av.2.2.2.1 p0.Changes,sL PE LY,sL av.2.2.2.2.2.1 p0.bB,sL av.2.2.2.2.2.2 p0.bA],aj 144 (⟨some ⟨b1,0,none⟩,4,fun _=>()⟩:SR (ah.R Bool)) Ui,aj 144 (⟨some ⟨b2,0,none⟩,4,fun _=>()⟩:SR (ah.R Bool)) Um]) ?_
 clear hM;rintro aK ⟨oZ,LY,Ui,Um,sQ⟩ PE hM eO hL1;dsimp only[adY,cA,nA] at hM ⊢;refine sr ?_;refine oe gq ?_;refine on ?_;refine au fun K4 hK4=>?_;refine co hM (fun hc4 hM=>?_) (fun hc4 hM=>?_)
 ·have IU:=of_decide_eq_true hc4;refine cs hK4 ?_;refine au fun K5 dx=>?_;refine bI ?_;refine aR ?_;refine aN ?_;refine aR ?_;refine oe dF ?_;refine fo 3 ?_;refine kK (fun w hm=>Kn.len (Kn.aj (e:=56) (r:=av.2.2.1) hA) hm) fun hl5=>?_;refine oe jq ?_;refine om ?_;refine on ?_;refine bI ?_;refine lr PE hM [0,1,4,5,6,13,14,21] (fun (lu,vF,xQ,xU,sU) CJ=>[(22,eI (sU:Int))]) [0,0,0,0,0] (fun (lu,vF,xQ,xU,sU) CJ=>[own iE 136 [sL dh s0.l,vI lu],aj 94 CJ vF,own jd 35 [vI p0.bJ,sL av.1 p0.aP,sL av.2.1 p0.Routes,sL av.2.2.1 p0.Lines,sL av.2.2.2.1 p0.Changes,sL CJ vF,sL av.2.2.2.2.2.1 p0.bB,sL av.2.2.2.2.2.2 p0.bA],aj 144 (⟨some ⟨b1,0,none⟩,4,fun _=>()⟩:SR (ah.R Bool)) xQ,aj 144 (⟨some ⟨b2,0,none⟩,4,fun _=>()⟩:SR (ah.R Bool)) xU]) ?_
  clear hM;rintro eU ⟨lu,vF,xQ,xU,sU⟩ CJ hM xA hL2;dsimp only[adZ,cA,nA] at hM ⊢;refine sr ?_;refine oe gq ?_;refine on ?_;refine au fun K9 fH=>?_;refine co hM (fun hc6 hM=>?_) (fun hc6 hM=>?_)
  · have axo:=of_decide_eq_true hc6;refine cs fH ?_;refine jk (SR (ah.R Turn)) y (k:=LV eU sU) [0,1,4,5,6,13,14,21,22] (fun (Rw,OA,Uj,Un) U6=>[]) [0,0,0,0,0] (fun (Rw,OA,Uj,Un) U6=>[own iE 136 [sL dh s0.l,vI Rw],aj 94 U6 OA,own jd 35 [vI p0.bJ,sL av.1 p0.aP,sL av.2.1 p0.Routes,sL av.2.2.1 p0.Lines,sL av.2.2.2.1 p0.Changes,sL U6 OA,sL av.2.2.2.2.2.1 p0.bB,sL av.2.2.2.2.2.2 p0.bA],aj 144 (⟨some ⟨b1,0,none⟩,4,fun _=>()⟩:SR (ah.R Bool)) Uj,aj 144 (⟨some ⟨b2,0,none⟩,4,fun _=>()⟩:SR (ah.R Bool)) Un]) ?_ ?_
    ·intro zB hJ2;refine bI ?_;refine aR ?_;refine aN ?_;refine au fun nG gH=>?_;refine dS [aj 94 CJ vF,own jd 35 [vI p0.bJ,sL av.1 p0.aP,sL av.2.1 p0.Routes,sL av.2.2.1 p0.Lines,sL av.2.2.2.1 p0.Changes,sL CJ vF,sL av.2.2.2.2.2.1 p0.bB,sL av.2.2.2.2.2.2 p0.bA],aj 144 (⟨some ⟨b1,0,none⟩,4,fun _=>()⟩:SR (ah.R Bool)) xQ,aj 144 (⟨some ⟨b2,0,none⟩,4,fun _=>()⟩:SR (ah.R Bool)) xU,iL s0.l dh,aj 71 av.1 p0.aP,aj 90 av.2.1 p0.Routes,aj 56 av.2.2.1 p0.Lines,aj 79 av.2.2.2.1 p0.Changes,aj 84 av.2.2.2.2.2.1 p0.bB,aj 86 av.2.2.2.2.2.2 p0.bA] (by repeat (first|exact List.Sublist.refl _|apply List.Sublist.cons_cons|apply List.Sublist.cons)) ?_;refine am 0 ?_;obtain⟨y7,DT,hM⟩:=bind_some hM;refine bT 1 rfl (fu sA (fun S w hs hP=>iI _ w iE (bN.mk s0.l lu) dh 3 y7 DT hP (kM hs)) fG (fun r9=>⟨rI,?_⟩));dsimp only[cA,nA];refine ay 2 rfl vY ?_;refine am 3 ?_;refine dX 4 rfl rfl dJ ?_
     obtain⟨x10,AQ,hM⟩:=bind_some hM;refine dX 5 rfl rfl (KS (r:=(⟨some ⟨b1,0,none⟩,4,fun _=>()⟩:SR (ah.R Bool))) (xs:=xQ) 1 (Kn.aj (e:=144) (r:=(⟨some ⟨b1,0,none⟩,4,fun _=>()⟩:SR (ah.R Bool))) hA) (fun hg=>let h:=jX (cu AQ hg);⟨h.1,h.2.1⟩)) ?_;refine dX 6 rfl rfl (dY 0 (Kn.aj (e:=144) (r:=(⟨some ⟨b1,0,none⟩,4,fun _=>()⟩:SR (ah.R Bool))) hA) (fun hg=>cu AQ hg)) ?_;refine dX 7 rfl rfl iC ?_;refine ay 8 rfl rR ?_;refine am 9 ?_;refine dX 10 rfl rfl dJ ?_;obtain⟨lS,SY,hM⟩:=bind_some hM;refine dX 11 rfl rfl (KS (r:=(⟨some ⟨b2,0,none⟩,4,fun _=>()⟩:SR (ah.R Bool))) (xs:=xU) 1 (Kn.aj (e:=144) (r:=(⟨some ⟨b2,0,none⟩,4,fun _=>()⟩:SR (ah.R Bool))) hA) (fun hg=>let h:=jX (cu SY hg);⟨h.1,h.2.1⟩)) ?_;refine dX 12 rfl rfl (dY 0 (Kn.aj (e:=144) (r:=(⟨some ⟨b2,0,none⟩,4,fun _=>()⟩:SR (ah.R Bool))) hA) (fun hg=>cu SY hg)) ?_;refine dX 13 rfl rfl iC ?_;refine ay 14 rfl rR ?_;refine am 15 ?_;refine dX 16 rfl rfl dJ ?_;refine dX 17 rfl rfl dF ?_;refine dX 18 rfl rfl fC ?_;refine dX 19 rfl rfl dJ ?_;refine dX 20 rfl rfl dJ ?_;refine dX 21 rfl rfl dF ?_;refine dX 22 rfl rfl (aY 3) ?_
     refine dX 23 rfl rfl gZ ?_;refine dX 24 rfl rfl dJ ?_;obtain⟨qm,Lm,hM⟩:=bind_some hM;refine dX 25 rfl rfl (dL 4 (Kn.aj (e:=56) (r:=av.2.2.1) hA) (fun hg=>let h:=jX (cu Lm hg);⟨h.1,h.2.1⟩)) ?_;refine dX 26 rfl rfl (aY 3) ?_;refine agE ((decide (0<y7.1)&&(!x10))&&(!lS)) (fun lD=>?_) (fun lD=>?_)
     ·replace hM:=iT lD hM;have S9:=cu Lm lD;refine xD 41 lD rfl ?_;refine xD 42 lD rfl ?_;refine xD 43 lD rfl ?_;refine xD 44 lD rfl ?_;refine xD 45 lD rfl ?_;refine xD 46 lD rfl ?_;refine xD 47 lD rfl ?_;refine xD 48 lD rfl ?_;refine xD 49 lD rfl ?_;refine xD 50 lD rfl ?_;refine xD 51 lD rfl ?_;refine rP 27 rfl rfl lD (dY 3 (Kn.aj (e:=56) (r:=av.2.2.1) hA) (fun _=>S9)) ?_;refine rP 28 rfl rfl lD jq ?_;obtain⟨anP,hM⟩:=bQ hM;refine rP 29 rfl rfl lD (pW (hr:=fun hg=>dU anP)) ?_;refine rP 31 rfl rfl lD dJ ?_;refine rP 32 rfl rfl lD dF ?_;refine rP 33 rfl rfl lD fC ?_;refine rP 34 rfl rfl lD dJ ?_;obtain⟨uX,Tc,hM⟩:=bind_some hM;refine XE 30 rfl rfl lD (sV (fun hs=>ah3 _ _ (Plan.mk p0.bJ p0.aP p0.Routes p0.Lines p0.Changes vF p0.bB p0.bA) (av.1,av.2.1,av.2.2.1,av.2.2.2.1,CJ,av.2.2.2.2.2.1,av.2.2.2.2.2.2) (sQ:Int) ((qm.bD.length:Int)-1) uX Tc (aM hs) ⟨(kT hs),(kT hs),(kT hs),(kT hs),(kT hs),(kT hs),(kT hs)⟩) ⟨rI,?_⟩);obtain⟨y21,Lu,hM⟩:=bind_some hM;refine XE 35 rfl rfl lD (sV (fun hs=>ah2 _ _ (Plan.mk p0.bJ p0.aP p0.Routes p0.Lines p0.Changes vF p0.bB p0.bA) (av.1,av.2.1,av.2.2.1,av.2.2.2.1,CJ,av.2.2.2.2.2.1,av.2.2.2.2.2.2) (sU:Int) 0 y21 Lu (aM hs) ⟨(kT hs),(kT hs),(kT hs),(kT hs),(kT hs),(kT hs),(kT hs)⟩) ⟨rI,?_⟩)
      refine rP 36 rfl rfl lD oK ?_;refine ay 37 rfl rR ?_;refine bS (gH _ _ ?_);refine co hM (fun Ld hM=>?_) (fun Ld hM=>?_)
      ·refine aR ?_;refine om ?_;obtain⟨x24,hx25,hM⟩:=bind_some hM;refine oe (KS (r:=(⟨some ⟨b1,0,none⟩,4,fun _=>()⟩:SR (ah.R Bool))) (xs:=xQ) 1 (Kn.aj (e:=144) (r:=(⟨some ⟨b1,0,none⟩,4,fun _=>()⟩:SR (ah.R Bool))) hA) (iS hx25)) ?_;refine bf (Nf (r:=(⟨some ⟨b1,0,none⟩,4,fun _=>()⟩:SR (ah.R Bool))) (i:=(sQ:Int)) (xs:=xQ) (u:=x24) (vs:=[.bool true]) 0 true hx25 rfl (fun _ _ h=>h) uA ?_);have Gl:=Gn (u:=true) hx25;obtain⟨x27,hx28,hM⟩:=bind_some hM;refine oe (KS (r:=(⟨some ⟨b2,0,none⟩,4,fun _=>()⟩:SR (ah.R Bool))) (xs:=xU) 1 (Kn.aj (e:=144) (r:=(⟨some ⟨b2,0,none⟩,4,fun _=>()⟩:SR (ah.R Bool))) hA) (iS hx28)) ?_;refine bf (Nf (r:=(⟨some ⟨b2,0,none⟩,4,fun _=>()⟩:SR (ah.R Bool))) (i:=(sU:Int)) (xs:=xU) (u:=x27) (vs:=[.bool true]) 0 true hx28 rfl (fun _ _ h=>h) uA ?_);have hx29:=Gn (u:=true) hx28;refine on ?_;refine aR ?_;obtain⟨lI,hy31,hM⟩:=bind_some hM;refine bf (fu sA (fun S w hs hP=>iI _ w iE (bN.mk s0.l y7.2) dh 10 lI hy31 hP (kM hs)) fG (fun r32=>?_));dsimp only[cA,nA];refine oP hM fun hM=>?_
       refine aN ?_;refine kZ [0,0] 17 ?_;refine zm 0 ?_;refine zm 1 ?_;refine aI 2 rfl dF ?_;refine fz 3 5 ?_;refine zm 5 ?_;refine zm 6 ?_;refine zm 7 ?_;refine zm 8 ?_;refine zm 9 ?_;obtain⟨y34,Cm,hM⟩:=bind_some hM;refine cK 10 rfl (fu sA (fun S w hs hP=>iI _ w iE (bN.mk s0.l lI.2) dh 30 y34 Cm hP (kM hs)) fG (fun ZB=>⟨rI,?_⟩));dsimp only[cA,nA];obtain⟨Sd,hM⟩:=bQ hM;refine aI 11 rfl (dP (hr:=fun hg=>dU Sd)) ?_;refine aI 12 rfl (dO [vI (sQ:Int),vI (sU:Int),vI (10+lI.1),vI ((10+lI.1)+y34.1)]) ?_;refine cK 13 rfl (fI (α:=Turn) 94 (fun _=>()) ([(Turn.mk (sQ:Int) (sU:Int) (10+lI.1) ((10+lI.1)+y34.1))]:List Turn) oF (fun Fa=>⟨rI,?_⟩));obtain⟨Sv,hM⟩:=bQ hM;refine cK 14 rfl (iq (r:=CJ) (r2:=Fa) uR (Kn.aj (e:=94) (r:=Fa) hA) oF (of_decide_eq_true Sv) (fun U3=>⟨rI,?_⟩));refine aI 15 rfl dF ?_;refine aI 16 rfl (aY 5) ?_;refine iX rfl (sO ?_)
       refine iW (hJ2 U3 hM sS rI)
      refine gG (hJ2 CJ hM sS rI)
     replace hM:=iF lD hM;refine pU 27 rfl rfl lD ?_;refine pU 28 rfl rfl lD ?_;refine pU 29 rfl rfl lD ?_;refine pU 30 rfl rfl lD ?_;refine pU 31 rfl rfl lD ?_;refine pU 32 rfl rfl lD ?_;refine pU 33 rfl rfl lD ?_;refine pU 34 rfl rfl lD ?_;refine pU 35 rfl rfl lD ?_;refine pU 36 rfl rfl lD ?_;refine ay 37 rfl (Yf lD) ?_;refine bS (gH _ _ ?_);refine RO rfl rfl ?_;refine gG (hJ2 CJ hM sS rI)
    clear hM;rintro⟨Rw,OA,Uj,Un⟩ U6 hM;dsimp only[LV,cA,nA] at hM ⊢;refine bg ?_;refine oe (dP (hr:=fun _=>by unfold gN;omega)) ?_;refine om ?_;refine bq (hL2 U6 hM sS rI)
  refine cx dx ?_;dsimp only[ad1] at hM;refine bg ?_;refine oe (dP (hr:=fun _=>by unfold gN;omega)) ?_;refine om ?_;refine bq (hL1 CJ hM sS rI)
 obtain rfl:=some_inj hM;refine RP (DW rfl (fun w hm=>bR PE hm rfl))
end Go.Proofs.YtcalibhfgdncaaaGreatDoor

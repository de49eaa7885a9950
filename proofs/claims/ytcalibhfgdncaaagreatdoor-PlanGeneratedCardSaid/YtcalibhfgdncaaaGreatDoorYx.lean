/- Models of functions, and that the code computes them. -/
import Derived.Test.YtcalibhfgdncaaaGreatDoorPs
import Derived.Test.YtcalibhfgdncaaaGreatDoorWk
import Derived.Test.YtcalibhfgdncaaaGreatDoorIto
set_option linter.all false
namespace Go.Proofs.YtcalibhfgdncaaaGreatDoor
open Go.Dc Go.RowKit
set_option maxRecDepth 10000
def Ns(bA:((List Str)×Nat)→Option (List Str))(gL:Nat):(List Str)→Option (List Str):=fun MV=>
 bA (MV,gL+1)
def aby(nC:List Str):Unit→Option (List Str):=fun _=>
 some nC
def RY(nY:List Any)(bA:((List Str)×Nat)→Option (List Str)):((List Str)×Nat)→Option (List Str):=fun (nC,gL)=>
 if decide ((gL:Int)<(nY.length:Int)) then
  ((idx nY (gL:Int)).bind fun x4=>
  if x4.iR then
   (bq (decide ((nC.length+([x4.str]:List Str).length)*16≤140737488355328))<|
   Ns bA gL (nC++([x4.str]:List Str)))
  else
   (if x4.JH then
    ((IE x4.int).bind fun eU=>
    bq (decide ((nC.length+([eU]:List Str).length)*16≤140737488355328))<|
    Ns bA gL (nC++([eU]:List Str)))
   else
    (Ns bA gL nC)))
 else
  (aby nC ())
def RZ(nY:List Any):Option (List Str):=
 iter (RY nY) FUEL (([]:List Str),0)
theorem ap2(S:bO)(w:World)(nY:List Any)(w9:aC.R (List Any))(y:(List Str))(hM:RZ nY=some y)(hS:sB S w)(Zt:aC.ok S w w9 nY)(zP:(gN 3 ig).φ S w):
   Calls Tryz.prog 111 #[sL w9 nY] w (Post (β:=(aC.R (List Str))) S [] (fun g=>sL g y) (fun g=>[aj 9 g y]) w):=by
 refine cu (args:=[_]) Tryz.func111 rfl ((pre_nil hS).start |>.gW (α:=List Any) (r:=w9) (x:=nY) Zt|>.Jr (c:=gN 3 ig) (fun _ h=>False.elim h) zP) rfl ?_;unfold RZ at hM;refine bI ?_;refine bI ?_;refine aK fun K3 hK3=>?_;refine aW ?_;refine mF (fun w hm=>Kn.len (kG nY w9) hm) fun hl1=>?_;refine oe bL ?_;refine om ?_;refine on ?_;refine bH ?_;refine cZ (fun w hm=>hm.dR (α:=Str) 9 (fun _=>())) ?_;refine lp jT hM (fun (nC,gL) vw=>[(3,eS vw nC),(8,eS w9 nY),(9,eI (nY.length:Int)),(10,eI (gL:Int))]) (fun (nC,gL) vw=>[aj 9 vw nC,iL nY w9,gN 3 ig]) sS rI ?_;clear hM;rintro bA ⟨nC,gL⟩ vw hM iG hL1;dsimp only[RY] at hM ⊢;refine sr ?_;refine oe bY ?_;refine on ?_;refine aK fun K6 dn=>?_;refine cc rfl hM (fun hc3 hM=>?_) (fun hc3 hM=>?_)
 ·have asi:=of_decide_eq_true hc3;refine aX (dn _ _ ?_);clear dn;refine jn (SR (aC.R Str)) y (k:=Ns bA gL) (fun MV Tw=>[(3,eS Tw MV),(8,eS w9 nY),(9,eI (nY.length:Int)),(10,eI (gL:Int))]) (fun MV Tw=>[aj 9 Tw MV,iL nY w9,gN 3 ig]) ?_ ?_
  · intro zC hJ2;refine bH ?_;refine sr ?_;obtain⟨x4,hx5,hM⟩:=bind_some hM;refine oe (bD (xs:=nY) 1 (kG nY w9) (iS hx5)) ?_;refine oe (bT (i:=(gL:Int)) (xs:=nY) (y:=x4) 0 (kG nY w9) (fun _=>hx5)) ?_;refine aT ?_;refine aW ?_;refine on ?_;refine bH ?_;refine sr ?_;refine oe (ajF (ti:=3) (v:=x4)) ?_;refine oe (jv (vs:=[.string x4.str.ba,.bool x4.iR])) ?_;refine oe (jv (vs:=[.string x4.str.ba,.bool x4.iR])) ?_;refine on ?_;refine cc rfl hM (fun hc6 hM=>?_) (fun hc6 hM=>?_)
    ·refine bI ?_;refine bB ?_;refine om ?_;refine om ?_;refine bM (fD (α:=Str) 9 (fun _=>()) ([x4.str]:List Str) oF (fun r7=>?_));obtain⟨ZB,hM⟩:=bW hM;refine bM (jc (r:=vw) (r2:=r7) uR (Kn.aj (e:=9) (r:=r7) hA) oF (of_decide_eq_true ZB) (fun r8=>?_));refine oa ?_;refine bC (hJ2 r8 hM sS rI)
    refine sr ?_;refine oe (ajE (ts:=9) (v:=x4)) ?_;refine oe (jv (vs:=[vI x4.int,.bool x4.JH])) ?_;refine oe (jv (vs:=[vI x4.int,.bool x4.JH])) ?_;refine on ?_;refine cc rfl hM (fun wO hM=>?_) (fun wO hM=>?_)
    ·refine bI ?_;refine bB ?_;refine om ?_;refine om ?_;obtain⟨eU,vV,hM⟩:=bind_some hM;refine cv (fun hs=>XH _ _ x4.int eU vV (bf hs) (Chunk.mono _ _ _ _ (fun _ h=> .inl h) ((hA:Has _ (gN 3 ig)).φ hs))) ?_;refine bM (fD (α:=Str) 9 (fun _=>()) ([eU]:List Str) oF (fun sO=>?_));obtain⟨Qu,hM⟩:=bW hM;refine bM (jc (r:=vw) (r2:=sO) uR (Kn.aj (e:=9) (r:=sO) hA) oF (of_decide_eq_true Qu) (fun dW=>?_));refine oa ?_;refine bC (hJ2 dW hM sS rI)
    refine aX (hJ2 vw hM sS rI)
  clear hM;rintro MV Tw hM;dsimp only[Ns] at hM ⊢;refine bB ?_;refine oe (eH (hr:=fun _=>by unfold gF;omega)) ?_;refine om ?_;refine bC (hL1 Tw hM sS rI)
 refine dK (hK3 _ _ ?_);clear hK3;dsimp only[aby] at hM;refine aW ?_;refine aT ?_;obtain rfl:=some_inj hM;refine aY (mD (fun w hm=>fU vw hm rfl))
def Af(p0:lM)(nY:List Any):Option (List (List Str)):=
 (RZ nY).bind fun y1=>
 bq (decide ((p0.lines.length+([y1]:List (List Str)).length)*24≤140737488355328))<|
 some (p0.lines++([y1]:List (List Str)))
theorem FL(S:bO)(w:World)(eY:Nat)(p0:lM)(ah:aC.R lM)(nY:List Any)(w9:aC.R (List Any))(y:(List (List Str)))(hM:Af p0 nY=some y)(hP:Pre S [own eY 112 (G8 p0 ah),aj 22 ah p0.lines] w)(Zt:aC.ok S w w9 nY)(zP:(gN 3 ig).φ S w):
  Calls Tryz.prog 47 #[vP eY,sL w9 nY] w (Post (β:=(SR (aC.R (List Str)))) S [own eY 112 (G8 p0 ah),aj 22 ah p0.lines] (fun g=> .tuple #[]) (fun g=>[own eY 112 [sL g y],aj 22 g y]) w):=by
 refine cu (args:=[_,_]) Tryz.func47 rfl (hP.start |>.gW (α:=List Any) (r:=w9) (x:=nY) Zt|>.Jr (c:=gN 3 ig) (fun _ h=>False.elim h) zP) rfl ?_;unfold Af at hM;refine iW [gN 3 ig,iL nY w9,own eY 112 (G8 p0 ah)] 11 ?_;refine aG 0 rfl aL ?_;refine aG 1 rfl aL ?_;refine aG 2 rfl fI ?_;refine aG 3 rfl (av 0) ?_;refine aG 4 rfl (aF (b:=eY)) ?_;refine aG 5 rfl aL ?_;obtain⟨y1,hy2,hM⟩:=bind_some hM;refine dA 6 rfl (fJ jM.nil (fun S w hs hP=>ap2 _ w nY w9 y1 hy2 (bf hs) (kM hs) (Chunk.mono _ _ _ _ (fun _ h=> .inl h) ((hA:Has _ (gN 3 ig)).φ hs))) gq (fun r3=>⟨rI,?_⟩));dsimp only[cA,nA];refine jr (fun w hm=>hm.freeze (r:=r3) uA) ?_;refine dA 7 rfl (fD (α:=List Str) 22 (fun _=>r3) ([y1]:List (List Str)) (mg.cons (fun S w hs=>(kI hs)) mg.nil) (fun r4=>⟨rI,?_⟩));obtain⟨hb6,hM⟩:=bW hM;refine dA 8 rfl (jc (r:=ah) (r2:=r4) uR (Kn.aj (e:=22) (r:=r4) hA) (mg.row (e:=22) (r:=r4) hA) (of_decide_eq_true hb6) (fun r5=>⟨rI,?_⟩));refine aG 9 rfl fI ?_;refine aG 10 rfl (av 0) ?_;refine iQ rfl (xu (b:=eY) (vs:=[.slice r5.a ((p0.lines++([y1]:List (List Str))).length) r5.cap]) (k:=?_));obtain rfl:=some_inj hM;refine iP (JU rfl (fun w hm=>fU r5 hm rfl))
def Nt(l0:Layout)(x6:Step)(nC:List Str)(bA:((List Str)×Nat)→Option (List (List Str)))(jU:Nat):Str→Option (List (List Str)):=fun Jm=>
 (idx l0.Sections x6.Section).bind fun x9=>
 bq (decide ((nC.length+([x9.Name,Jm]:List Str).length)*16≤140737488355328))<|
 bA ((nC++([x9.Name,Jm]:List Str)),jU+1)
def Nu(p0:lM):(List Str)→Option (List (List Str)):=fun FI=>
 bq (decide ((p0.lines.length+([FI]:List (List Str)).length)*24≤140737488355328))<|
 some (p0.lines++([FI]:List (List Str)))
def abz(r0:aO)(nC:List Str)(p0:lM):Unit→Option (List (List Str)):=fun _=>
 if decide (r0.Overlap≠0) then
  ((IE r0.Overlap).bind fun yB=>
  bq (decide ((nC.length+([(⟨[111,118,101,114,108,97,112]⟩:Str),yB]:List Str).length)*16≤140737488355328))<|
  Nu p0 (nC++([(⟨[111,118,101,114,108,97,112]⟩:Str),yB]:List Str)))
 else
  (Nu p0 nC)
def R3(r0:aO)(l0:Layout)(p0:lM)(bA:((List Str)×Nat)→Option (List (List Str))):((List Str)×Nat)→Option (List (List Str)):=fun (nC,jU)=>
 if decide ((jU:Int)<(r0.Steps.length:Int)) then
  ((idx r0.Steps (jU:Int)).bind fun x6=>
  if decide (x6.Dir=1) then
   (Nt l0 x6 nC bA jU (⟨[100,111,119,110]⟩:Str))
  else
   (Nt l0 x6 nC bA jU (⟨[117,112]⟩:Str)))
 else
  (abz r0 nC p0 ())
def R4(p0:lM)(l0:Layout)(r0:aO):Option (List (List Str)):=
 iter (R3 r0 l0 p0) FUEL (([(⟨[114,111,117,116,101]⟩:Str)]:List Str),0)
theorem ap4(S:bO)(w:World)(eY:Nat)(p0:lM)(ah:aC.R lM)(l0:Layout)(ay:aC.R Layout)(r0:aO)(bS:aC.R aO)(y:(List (List Str)))(hM:R4 p0 l0 r0=some y)(hP:Pre S [own eY 112 (G8 p0 ah),aj 22 ah p0.lines] w)(dZ:aC.ok S w ay l0)(qg:aC.ok S w bS r0)(zP:(gN 3 ig).φ S w):
   Calls Tryz.prog 48 #[vP eY,.agg (jN l0 ay),.agg (xH r0 bS)] w (Post (β:=(SR (aC.R (List Str)))) S [own eY 112 (G8 p0 ah),aj 22 ah p0.lines] (fun g=> .tuple #[]) (fun g=>[own eY 112 [sL g y],aj 22 g y]) w):=by
 refine cu (args:=[_,_,_]) Tryz.func48 rfl (hP.start |>.lY dZ|>.gW (α:=List Step) (r:=bS) (x:=r0.Steps) qg|>.Jr (c:=gN 3 ig) (fun _ h=>False.elim h) zP) rfl ?_;unfold R4 at hM;refine sr ?_;refine oB (cK l0 ay) fun b1=>?_;refine oB (jC r0 bS) fun b2=>?_;refine on ?_;refine sr ?_;refine bM (fD (α:=Str) 9 (fun _=>()) ([(⟨[114,111,117,116,101]⟩:Str)]:List Str) oF (fun r3=>?_));refine aT ?_;refine aK fun K3 hK3=>?_;refine sr ?_;refine oe (av 0) ?_;refine oe (aF (b:=b2)) ?_;refine mF (fun w hm=>Kn.len (kG r0.Steps bS) hm) fun hl4=>?_;refine oe bL ?_;refine om ?_;refine on ?_
 refine bH ?_;refine lp r3 hM (fun (nC,jU) vw=>[(0,eP eY),(4,eP b1),(5,eP b2),(6,eS vw nC),(12,eS bS r0.Steps),(13,eI (r0.Steps.length:Int)),(14,eI (jU:Int))]) (fun (nC,jU) vw=>[aj 22 ah p0.lines,own eY 112 (G8 p0 ah),iL l0.aU ay.1,iL l0.bG ay.2.1,iL l0.Sections ay.2.2.1,iL l0.Links ay.2.2.2,own b1 26 (cK l0 ay),iL r0.Steps bS,own b2 90 (jC r0 bS),aj 9 vw nC,gN 3 ig]) sS rI ?_;clear hM;rintro bA ⟨nC,jU⟩ vw hM iG hL1;dsimp only[R3] at hM ⊢;refine sr ?_;refine oe bY ?_;refine on ?_;refine aK fun K6 dn=>?_;refine cc rfl hM (fun jL hM=>?_) (fun jL hM=>?_)
 ·have alW:=of_decide_eq_true jL;refine aX (dn _ _ ?_);clear dn;refine aK fun K7 eu=>?_;refine bH ?_;refine sr ?_;obtain⟨x6,hx7,hM⟩:=bind_some hM;refine oe (bD (xs:=r0.Steps) 2 (kG r0.Steps bS) (iS hx7)) ?_;refine oe (fM (m:=2) (i:=(jU:Int)) (xs:=r0.Steps) (y:=x6) (l:=(o9 x6)) 0 (kG r0.Steps bS) (fun _=>hx7)) ?_;refine oA rfl fun b8=>?_;refine oS b8 (o9 x6) ?_;refine on ?_;refine bI ?_;refine jm y (k:=Nt l0 x6 nC bA jU) (fun Jm=>[(0,eP eY),(4,eP b1),(5,eP b2),(6,eS vw nC),(8,eP b8),(9,.v (.string Jm.ba)),(12,eS bS r0.Steps),(13,eI (r0.Steps.length:Int)),(14,eI (jU:Int))]) (fun Jm=>[aj 22 ah p0.lines,own eY 112 (G8 p0 ah),iL l0.aU ay.1,iL l0.bG ay.2.1,iL l0.Sections ay.2.2.1,iL l0.Links ay.2.2.2,own b1 26 (cK l0 ay),iL r0.Steps bS,own b2 90 (jC r0 bS),aj 9 vw nC,own b8 92 (o9 x6),gN 3 ig]) ?_ ?_
  · intro zC hJ2;refine sr ?_;refine oe (av 1) ?_;refine oe (aF (b:=b8)) ?_;refine oe dU ?_;refine on ?_;refine cc rfl hM (fun vT hM=>?_) (fun vT hM=>?_)
    ·refine bB ?_;refine oa ?_;refine bC (hJ2 hM sS rI)
    refine aX (hJ2 hM sS rI)
  clear hM;rintro Jm hM;dsimp only[Nt] at hM ⊢;refine bB ?_;refine om ?_;refine oe (av 2) ?_;refine oe (aF (b:=b1)) ?_;refine oe (av 0) ?_;refine oe (aF (b:=b8)) ?_;obtain⟨x9,ni,hM⟩:=bind_some hM;refine oe (bD (xs:=l0.Sections) 5 (kG l0.Sections ay.2.2.1) (iS ni)) ?_;refine oe (av 0) ?_;refine oe (bT (i:=x6.Section) (xs:=l0.Sections) (y:=x9) 0 (kG l0.Sections ay.2.2.1) (fun _=>ni)) ?_;refine om ?_;refine bM (fD (α:=Str) 9 (fun _=>()) ([x9.Name,Jm]:List Str) oF (fun bP=>?_));obtain⟨alg,hM⟩:=bW hM;refine bM (jc (r:=vw) (r2:=bP) uR (Kn.aj (e:=9) (r:=bP) hA) oF (of_decide_eq_true alg) (fun Kj=>?_));refine oa ?_;refine bC (eu _ _ ?_);clear eu;refine bB ?_;refine oe (eH (hr:=fun _=>by unfold gF;omega)) ?_;refine om ?_;refine bC (hL1 Kj hM sS rI)
 refine dK (hK3 _ _ ?_);clear hK3;dsimp only[abz] at hM;refine jn (SR (aC.R Str)) y (k:=Nu p0) (fun FI Ot=>[(0,eP eY),(6,eS Ot FI)]) (fun FI Ot=>[aj 22 ah p0.lines,own eY 112 (G8 p0 ah),aj 9 Ot FI,gN 3 ig]) ?_ ?_
 ·intro Gh hJ3;refine sr ?_;refine oe (av 1) ?_;refine oe (aF (b:=b2)) ?_;refine oe gZ ?_;refine on ?_;refine cc rfl hM (fun hc18 hM=>?_) (fun hc18 hM=>?_)
  · refine bB ?_;refine om ?_;refine oe (av 1) ?_;refine oe (aF (b:=b2)) ?_;obtain⟨yB,QO,hM⟩:=bind_some hM;refine cv (fun hs=>XH _ _ r0.Overlap yB QO (bf hs) (Chunk.mono _ _ _ _ (fun _ h=> .inl h) ((hA:Has _ (gN 3 ig)).φ hs))) ?_;refine bM (fD (α:=Str) 9 (fun _=>()) ([(⟨[111,118,101,114,108,97,112]⟩:Str),yB]:List Str) oF (fun Aj=>?_));obtain⟨alo,hM⟩:=bW hM;refine bM (jc (r:=vw) (r2:=Aj) uR (Kn.aj (e:=9) (r:=Aj) hA) oF (of_decide_eq_true alo) (fun Ak=>?_));refine oa ?_;refine bC (hJ3 Ak hM sS rI)
  refine aX (hJ3 vw hM sS rI)
 clear hM;rintro FI Ot hM;dsimp only[Nu] at hM ⊢;refine bB ?_;refine om ?_;refine om ?_;refine oe fI ?_;refine oe (av 0) ?_;refine oe (aF (b:=eY)) ?_;refine om ?_;refine mU (fun w hm=>hm.freeze (r:=Ot) uA) ?_;refine bM (fD (α:=List Str) 22 (fun _=>Ot) ([FI]:List (List Str)) (mg.cons (fun S w hs=>(kI hs)) mg.nil) (fun Ai=>?_));obtain⟨alj,hM⟩:=bW hM;refine bM (jc (r:=ah) (r2:=Ai) uR (Kn.aj (e:=22) (r:=Ai) hA) (mg.row (e:=22) (r:=Ai) hA) (of_decide_eq_true alj) (fun r16=>?_));refine oe fI ?_;refine oe (av 0) ?_;refine oS eY [.slice r16.a ((p0.lines++([FI]:List (List Str))).length) r16.cap] ?_;obtain rfl:=some_inj hM;refine bC (JU rfl (fun w hm=>fU r16 hm rfl))
def Ke(jS:Int)(hi0:Int):Option Str:=
 (IE jS).bind fun y1=>
 (dX y1 (⟨[46,46]⟩:Str)).bind fun q3=>
 (IE hi0).bind fun y5=>
 (dX q3 y5).bind fun q7=>
 some q7
theorem abv(S:bO)(w:World)(jS:Int)(hi0:Int)(y:Str)(hM:Ke jS hi0=some y)(hS:sB S w)(zP:(gN 3 ig).φ S w):
  Calls Tryz.prog 49 #[vI jS,vI hi0] w (dz w (.string y.ba)):=by
 refine cu (args:=[_,_]) Tryz.func49 rfl ((pre_nil hS).start |>.Jr (c:=gN 3 ig) (fun _ h=>False.elim h) zP) rfl ?_;unfold Ke at hM;refine bI ?_;refine aW ?_;obtain⟨y1,hy2,hM⟩:=bind_some hM;refine cv (fun hs=>XH _ _ jS y1 hy2 (bf hs) (Chunk.mono _ _ _ _ (fun _ h=> .inl h) ((hA:Has _ (gN 3 ig)).φ hs))) ?_;obtain⟨q3,hq4,hM⟩:=bind_some hM;refine oe (eZ (fun _=>hq4)) ?_;refine om ?_;obtain⟨y5,ug,hM⟩:=bind_some hM;refine cv (fun hs=>XH _ _ hi0 y5 ug (bf hs) (Chunk.mono _ _ _ _ (fun _ h=> .inl h) ((hA:Has _ (gN 3 ig)).φ hs))) ?_;obtain⟨q7,hq8,hM⟩:=bind_some hM;refine oe (eZ (fun _=>hq8)) ?_;refine aT ?_;exact aY (bQ hM)
def Nb(oH:((List (List Str))×Nat)→Option (Str×Int))(AA:Nat):(List (List Str))→Option (Str×Int):=fun M0=>
 oH (M0,AA+1)
def afR(jX:((List (List Str))×Nat)→Option (Str×Int))(yV:List (List Str))(uJ:Nat):Unit→Option (Str×Int):=fun _=>
 jX (yV,uJ+1)
def M7(x31:Line)(jX:((List (List Str))×Nat)→Option (Str×Int))(uJ:Nat)(oH:((List (List Str))×Nat)→Option (Str×Int)):((List (List Str))×Nat)→Option (Str×Int):=fun (yV,AA)=>
 if decide ((AA:Int)<(x31.aJ.length:Int)) then
  ((idx x31.aJ (AA:Int)).bind fun gY=>
  if decide (gY.Max≠0) then
   ((Ke gY.Min gY.Max).bind fun tC=>
   (Af (lM.mk yV) ([(Any.s (⟨[114,105,100,101]⟩:Str)),(Any.i gY.aO),(Any.i gY.Extra),(Any.s tC)]:List Any)).bind fun tF=>
   Nb oH AA tF)
  else
   ((Af (lM.mk yV) ([(Any.s (⟨[114,105,100,101]⟩:Str)),(Any.i gY.aO),(Any.i gY.Extra)]:List Any)).bind fun jJ=>
   Nb oH AA jJ))
 else
  (afR jX yV uJ ())
def afS(Ab:List (List Str)):Unit→Option (Str×Int):=fun _=>
 (I4 Ab).bind fun y112=>
 some (y112,0)
def RQ(p0:Plan)(l0:Layout)(PV:((List (List Str))×Nat)→Option (Str×Int)):((List (List Str))×Nat)→Option (Str×Int):=fun (Ab,IK)=>
 if decide ((IK:Int)<(p0.bF.length:Int)) then
  ((idx p0.bF (IK:Int)).bind fun x101=>
  (idx l0.aU x101.From).bind fun x104=>
  (idx l0.aU x101.To).bind fun OZ=>
  (Af (lM.mk Ab) ([(Any.s (⟨[100,101,109,97,110,100]⟩:Str)),(Any.s x104),(Any.s OZ),(Any.i x101.Weight)]:List Any)).bind fun ac3=>
  PV (ac3,IK+1))
 else
  (afS Ab ())
def Ng(p0:Plan)(l0:Layout)(Bv:List (List Str)):Unit→Option (Str×Int):=fun _=>
 iter (RQ p0 l0) FUEL (Bv,0)
def RP(p0:Plan)(l0:Layout)(Gw:((List (List Str))×Nat)→Option (Str×Int)):((List (List Str))×Nat)→Option (Str×Int):=fun (Bv,IJ)=>
 if decide ((IJ:Int)<(p0.bE.length:Int)) then
  ((idx p0.bE (IJ:Int)).bind fun x88=>
  (idx p0.Lines x88.mJ).bind fun x91=>
  (idx p0.Lines x88.mP).bind fun x93=>
  (Af (lM.mk Bv) ([(Any.s (⟨[115,121,110,99]⟩:Str)),(Any.s x91.Name),(Any.i x88.lG),(Any.s x93.Name),(Any.i x88.lN),(Any.i x88.Offset)]:List Any)).bind fun y96=>
  Gw (y96,IJ+1))
 else
  (Ng p0 l0 Bv ())
def Nf(p0:Plan)(l0:Layout)(Bu:List (List Str)):Unit→Option (Str×Int):=fun _=>
 iter (RP p0 l0) FUEL (Bu,0)
def RO(p0:Plan)(l0:Layout)(Gv:((List (List Str))×Nat)→Option (Str×Int)):((List (List Str))×Nat)→Option (Str×Int):=fun (Bu,II)=>
 if decide ((II:Int)<(p0.Turns.length:Int)) then
  ((idx p0.Turns (II:Int)).bind fun AV=>
  (idx p0.Lines AV.From).bind fun O4=>
  (idx p0.Lines AV.To).bind fun tq=>
  (Ke AV.Min AV.Max).bind fun DL=>
  (Af (lM.mk Bu) ([(Any.s (⟨[116,117,114,110]⟩:Str)),(Any.s O4.Name),(Any.s tq.Name),(Any.s DL)]:List Any)).bind fun y83=>
  Gv (y83,II+1))
 else
  (Nf p0 l0 Bu ())
def Nc(p0:Plan)(l0:Layout)(Bt:List (List Str)):Unit→Option (Str×Int):=fun _=>
 iter (RO p0 l0) FUEL (Bt,0)
def RN(p0:Plan)(l0:Layout)(BU:((List (List Str))×Nat)→Option (Str×Int)):((List (List Str))×Nat)→Option (Str×Int):=fun (Bt,IG)=>
 if decide ((IG:Int)<(p0.Changes.length:Int)) then
  ((idx p0.Changes (IG:Int)).bind fun qp=>
  (idx p0.Lines qp.fZ).bind fun Dz=>
  (idx p0.Lines qp.iO).bind fun EK=>
  (Ke qp.Min qp.Max).bind fun O9=>
  (Af (lM.mk Bt) ([(Any.s (⟨[99,104,97,110,103,101]⟩:Str)),(Any.s Dz.Name),(Any.i qp.iE),(Any.s EK.Name),(Any.i qp.kN),(Any.s O9),(Any.i qp.Weight)]:List Any)).bind fun y68=>
  BU (y68,IG+1))
 else
  (Nc p0 l0 Bt ())
def Na(p0:Plan)(l0:Layout)(Br:List (List Str)):Unit→Option (Str×Int):=fun _=>
 iter (RN p0 l0) FUEL (Br,0)
def RL(p0:Plan)(l0:Layout)(jX:((List (List Str))×Nat)→Option (Str×Int)):((List (List Str))×Nat)→Option (Str×Int):=fun (Br,uJ)=>
 if decide ((uJ:Int)<(p0.Lines.length:Int)) then
  ((idx p0.Lines (uJ:Int)).bind fun x31=>
  (idx p0.aR x31.aH).bind fun x34=>
  (Af (lM.mk Br) ([(Any.s (⟨[108,105,110,101]⟩:Str)),(Any.s x31.Name),(Any.s x34.Name),(Any.i x31.Weight)]:List Any)).bind fun wG=>
  iter (M7 x31 jX uJ) FUEL (wG,0))
 else
  (Na p0 l0 Br ())
def M9(p0:Plan)(l0:Layout)(En:List (List Str)):Unit→Option (Str×Int):=fun _=>
 iter (RL p0 l0) FUEL (En,0)
def RJ(p0:Plan)(l0:Layout)(fE:((List (List Str))×Nat)→Option (Str×Int)):((List (List Str))×Nat)→Option (Str×Int):=fun (En,CY)=>
 if decide ((CY:Int)<(p0.Routes.length:Int)) then
  ((idx p0.Routes (CY:Int)).bind fun x23=>
  (R4 (lM.mk En) l0 x23).bind fun aP=>
  fE (aP,CY+1))
 else
  (M9 p0 l0 En ())
def M8(p0:Plan)(l0:Layout)(Em:List (List Str)):Unit→Option (Str×Int):=fun _=>
 iter (RJ p0 l0) FUEL (Em,0)
def M6(p0:Plan)(l0:Layout)(bA:((List (List Str))×Nat)→Option (Str×Int)):((List (List Str))×Nat)→Option (Str×Int):=fun (Em,IQ)=>
 if decide ((IQ:Int)<(p0.aR.length:Int)) then
  ((idx p0.aR (IQ:Int)).bind fun jP=>
  (Af (lM.mk Em) ([(Any.s (⟨[115,116,111,99,107]⟩:Str)),(Any.s jP.Name),(Any.i jP.Length),(Any.i jP.qB),(Any.i jP.qy),(Any.i jP.qz)]:List Any)).bind fun jW=>
  bA (jW,IQ+1))
 else
  (M8 p0 l0 Em ())
def RS(l0:Layout)(p0:Plan):Option (Str×Int):=
 (Ho l0 p0).bind fun y3=>
 if decide (y3≠0) then
  (some ((⟨[]⟩:Str),1))
 else
  ((Af (lM.mk ([]:List (List Str))) ([(Any.s (⟨[112,101,114,105,111,100]⟩:Str)),(Any.i p0.bU)]:List Any)).bind fun y9=>
  iter (M6 p0 l0) FUEL (y9,0))
theorem apP(S:bO)(w:World)(l0:Layout)(ay:aC.R Layout)(p0:Plan)(ah:aC.R Plan)(y:Str×Int)(hM:RS l0 p0=some y)(hS:sB S w)(dZ:aC.ok S w ay l0)(fT:aC.ok S w ah p0)(zP:(gN 3 ig).φ S w):
   Calls Tryz.prog 20 #[.agg (jN l0 ay),.agg (iV p0 ah)] w (dz w (.tuple #[.string y.1.ba,vI y.2])):=by
 refine cu (args:=[_,_]) Tryz.func20 rfl ((pre_nil hS).start |>.lY dZ|>.nS fT|>.Jr (c:=gN 3 ig) (fun _ h=>False.elim h) zP) rfl ?_;unfold RS at hM;refine sr ?_;refine oB (cK l0 ay) fun b1=>?_;refine oB (dh p0 ah) fun b2=>?_
 refine oa ?_;refine aT ?_;refine aK fun K2 hK2=>?_;refine sr ?_;refine oe (bR (b:=b1)) ?_;refine oe (bR (b:=b2)) ?_;obtain⟨y3,hy4,hM⟩:=bind_some hM;refine cv (fun hs=>V6 _ _ l0 ay p0 ah y3 hy4 (bf hs) ⟨(kM hs),(kM hs),(kM hs),(kM hs)⟩ ⟨(kM hs),(kM hs),(kM hs),(kM hs),(kM hs),(kM hs),(kM hs)⟩) ?_;refine oe gZ ?_;refine on ?_;refine cc rfl hM (fun jL hM=>?_) (fun jL hM=>?_)
 ·refine sr ?_;refine oa ?_;refine aT ?_;exact aY (zk hM)
 refine aX (hK2 _ _ ?_);clear hK2;refine sr ?_;refine oe (gI [z0]) ?_;refine oB [z0] fun b6=>?_;refine aT ?_;refine aW ?_;refine oe (qP (ti:=3) (s:=(⟨[112,101,114,105,111,100]⟩:Str))) ?_;refine oe (av 0) ?_;refine oe (aF (b:=b2)) ?_;refine oe (vN (ts:=9) (i:=p0.bU)) ?_;refine bM (fD (α:=Any) 20 (fun _=>()) ([(Any.s (⟨[112,101,114,105,111,100]⟩:Str)),(Any.i p0.bU)]:List Any) oF (fun r7=>?_));refine mU (fun w hm=>hm.dR (α:=List Str) 22 (fun _=>jT)) ?_;refine mU (fun w hm=>hm.freeze (r:=r7) uA) ?_;obtain⟨y9,zR,hM⟩:=bind_some hM;refine bM (nT sA (fun S w hs hP=>FL _ w b6 (lM.mk ([]:List (List Str))) apr ([(Any.s (⟨[112,101,114,105,111,100]⟩:Str)),(Any.i p0.bU)]:List Any) r7 y9 zR hP (kI hs) ((hA:Has _ (gN 3 ig)).φ hs)) (fun bP=>?_));dsimp only[cA,nA];refine on ?_;refine aK fun K7 eu=>?_;refine sr ?_;refine oe (av 1) ?_;refine oe (aF (b:=b2)) ?_
 refine mF (fun w hm=>Kn.len (kG p0.aR ah.1) hm) fun hl12=>?_;refine oe bL ?_;refine om ?_;refine on ?_;refine bH ?_;refine lp bP hM (fun (Em,IQ) OA=>[(2,eP b1),(3,eP b2),(6,eP b6),(37,eS ah.1 p0.aR),(38,eI (p0.aR.length:Int)),(39,eI (IQ:Int))]) (fun (Em,IQ) OA=>[iL l0.aU ay.1,iL l0.bG ay.2.1,iL l0.Sections ay.2.2.1,iL l0.Links ay.2.2.2,own b1 26 (cK l0 ay),iL p0.aR ah.1,iL p0.Routes ah.2.1,iL p0.Lines ah.2.2.1,iL p0.Changes ah.2.2.2.1,iL p0.Turns ah.2.2.2.2.1,iL p0.bE ah.2.2.2.2.2.1,iL p0.bF ah.2.2.2.2.2.2,own b2 35 (dh p0 ah),aj 22 OA Em,own b6 112 [sL OA Em],gN 3 ig]) sS rI ?_
 clear hM;rintro bA ⟨Em,IQ⟩ OA hM iG hL1;dsimp only[M6] at hM ⊢;refine sr ?_;refine oe bY ?_;refine on ?_;refine aK fun tK gU=>?_;refine cc rfl hM (fun zM hM=>?_) (fun zM hM=>?_)
 ·have alK:=of_decide_eq_true zM;refine aX (gU _ _ ?_);clear gU;refine aK fun rQ gG=>?_;refine bH ?_;refine sr ?_;obtain⟨jP,Bg,hM⟩:=bind_some hM;refine oe (bD (xs:=p0.aR) 5 (kG p0.aR ah.1) (iS Bg)) ?_;refine oe (fM (m:=5) (i:=(IQ:Int)) (xs:=p0.aR) (y:=jP) (l:=(ru jP)) 0 (kG p0.aR ah.1) (fun _=>Bg)) ?_;refine oA rfl fun b16=>?_;refine oS b16 (ru jP) ?_;refine on ?_;refine bB ?_;refine om ?_;refine oe (qP (ti:=3) (s:=(⟨[115,116,111,99,107]⟩:Str))) ?_;refine oe (av 0) ?_;refine oe (aF (b:=b16)) ?_;refine oe (qP (ti:=3) (s:=jP.Name)) ?_;refine oe (av 1) ?_;refine oe (aF (b:=b16)) ?_;refine oe (vN (ts:=9) (i:=jP.Length)) ?_;refine oe (av 2) ?_;refine oe (aF (b:=b16)) ?_;refine oe (vN (ts:=9) (i:=jP.qB)) ?_;refine oe (av 3) ?_;refine oe (aF (b:=b16)) ?_;refine oe (vN (ts:=9) (i:=jP.qy)) ?_;refine oe (av 4) ?_
  refine oe (aF (b:=b16)) ?_;refine oe (vN (ts:=9) (i:=jP.qz)) ?_;refine bM (fD (α:=Any) 20 (fun _=>()) ([(Any.s (⟨[115,116,111,99,107]⟩:Str)),(Any.s jP.Name),(Any.i jP.Length),(Any.i jP.qB),(Any.i jP.qy),(Any.i jP.qz)]:List Any) oF (fun dJ=>?_));refine mU (fun w hm=>hm.freeze (r:=dJ) uA) ?_;obtain⟨jW,xU,hM⟩:=bind_some hM;refine bM (nT sA (fun S w hs hP=>FL _ w b6 (lM.mk Em) OA ([(Any.s (⟨[115,116,111,99,107]⟩:Str)),(Any.s jP.Name),(Any.i jP.Length),(Any.i jP.qB),(Any.i jP.qy),(Any.i jP.qz)]:List Any) dJ jW xU hP (kI hs) ((hA:Has _ (gN 3 ig)).φ hs)) (fun dS=>?_));dsimp only[cA,nA];refine bC (gG _ _ ?_);clear gG;refine bB ?_;refine oe (eH (hr:=fun _=>by unfold gF;omega)) ?_;refine om ?_;refine bC (hL1 dS hM sS rI)
 refine dK (eu _ _ ?_);clear eu;dsimp only[M8] at hM;refine aK fun yD jO=>?_;refine sr ?_;refine oe (av 2) ?_;refine oe (aF (b:=b2)) ?_;refine mF (fun w hm=>Kn.len (kG p0.Routes ah.2.1) hm) fun asz=>?_;refine oe bL ?_;refine om ?_;refine on ?_;refine bH ?_;refine lp OA hM (fun (En,CY) OB=>[(2,eP b1),(3,eP b2),(6,eP b6),(64,eS ah.2.1 p0.Routes),(65,eI (p0.Routes.length:Int)),(66,eI (CY:Int))]) (fun (En,CY) OB=>[iL l0.aU ay.1,iL l0.bG ay.2.1,iL l0.Sections ay.2.2.1,iL l0.Links ay.2.2.2,own b1 26 (cK l0 ay),iL p0.aR ah.1,iL p0.Routes ah.2.1,iL p0.Lines ah.2.2.1,iL p0.Changes ah.2.2.2.1,iL p0.Turns ah.2.2.2.2.1,iL p0.bE ah.2.2.2.2.2.1,iL p0.bF ah.2.2.2.2.2.2,own b2 35 (dh p0 ah),aj 22 OB En,own b6 112 [sL OB En],gN 3 ig]) sS rI ?_
 clear hM;rintro fE ⟨En,CY⟩ OB hM wH hL2;dsimp only[RJ] at hM ⊢;refine sr ?_;refine oe bY ?_;refine on ?_;refine aK fun Ba kX=>?_;refine cc rfl hM (fun hc22 hM=>?_) (fun hc22 hM=>?_)
 ·have asf:=of_decide_eq_true hc22;refine aX (kX _ _ ?_);clear kX;refine aK fun LA sI=>?_;refine bH ?_;refine sr ?_;obtain⟨x23,hx24,hM⟩:=bind_some hM;refine oe (bD (xs:=p0.Routes) 2 (kG p0.Routes ah.2.1) (iS hx24)) ?_;refine oe (fM (m:=2) (i:=(CY:Int)) (xs:=p0.Routes) (y:=x23) (l:=(jC x23 (ah.2.1.es (CY:Int).toNat))) 0 (kG p0.Routes ah.2.1) (fun _=>hx24)) ?_;refine oA rfl fun Jd=>?_;refine oS Jd (jC x23 (ah.2.1.es (CY:Int).toNat)) ?_;refine on ?_;refine bB ?_;refine om ?_;refine oe (bR (b:=b1)) ?_;refine oe (bR (b:=Jd)) ?_;obtain⟨aP,hy27,hM⟩:=bind_some hM;refine bM (nT sA (fun S w hs hP=>ap4 _ w b6 (lM.mk En) OB l0 ay x23 (ah.2.1.es (CY:Int).toNat) aP hy27 hP ⟨(kI hs),(kI hs),(kI hs),(kI hs)⟩ ((Sk.elem (Sk.dw (α:=List aO) (r:=ah.2.1) (x:=p0.Routes) hA) hx24) S w hs) ((hA:Has _ (gN 3 ig)).φ hs)) (fun Kk=>?_));dsimp only[cA,nA];refine bC (sI _ _ ?_);clear sI;refine bB ?_
  refine oe (eH (hr:=fun _=>by unfold gF;omega)) ?_;refine om ?_;refine bC (hL2 Kk hM sS rI)
 refine dK (jO _ _ ?_);clear jO;dsimp only[M9] at hM;refine aK fun EN nX=>?_;refine sr ?_;refine oe (av 3) ?_;refine oe (aF (b:=b2)) ?_;refine mF (fun w hm=>Kn.len (kG p0.Lines ah.2.2.1) hm) fun asB=>?_;refine oe bL ?_;refine om ?_;refine on ?_;refine bH ?_;refine lp OB hM (fun (Br,uJ) Im=>[(2,eP b1),(3,eP b2),(6,eP b6),(76,eS ah.2.2.1 p0.Lines),(77,eI (p0.Lines.length:Int)),(78,eI (uJ:Int))]) (fun (Br,uJ) Im=>[iL l0.aU ay.1,iL l0.bG ay.2.1,iL l0.Sections ay.2.2.1,iL l0.Links ay.2.2.2,own b1 26 (cK l0 ay),iL p0.aR ah.1,iL p0.Routes ah.2.1,iL p0.Lines ah.2.2.1,iL p0.Changes ah.2.2.2.1,iL p0.Turns ah.2.2.2.2.1,iL p0.bE ah.2.2.2.2.2.1,iL p0.bF ah.2.2.2.2.2.2,own b2 35 (dh p0 ah),aj 22 Im Br,own b6 112 [sL Im Br],gN 3 ig]) sS rI ?_
 clear hM;rintro jX ⟨Br,uJ⟩ Im hM Gi hL3;dsimp only[RL] at hM ⊢;refine sr ?_;refine oe bY ?_;refine on ?_;refine aK fun Ja qU=>?_;refine cc rfl hM (fun D8 hM=>?_) (fun D8 hM=>?_)
 ·have ash:=of_decide_eq_true D8;refine aX (qU _ _ ?_);clear qU;refine aK fun Pj tX=>?_;refine bH ?_;refine sr ?_;obtain⟨x31,hx32,hM⟩:=bind_some hM;refine oe (bD (xs:=p0.Lines) 4 (kG p0.Lines ah.2.2.1) (iS hx32)) ?_;refine oe (fM (m:=4) (i:=(uJ:Int)) (xs:=p0.Lines) (y:=x31) (l:=(kZ x31 (ah.2.2.1.es (uJ:Int).toNat))) 0 (kG p0.Lines ah.2.2.1) (fun _=>hx32)) ?_;refine oA rfl fun ES=>?_;refine oS ES (kZ x31 (ah.2.2.1.es (uJ:Int).toNat)) ?_;refine on ?_;refine aK fun Ym Cc=>?_;refine iW [own ES 56 (kZ x31 (ah.2.2.1.es (uJ:Int).toNat)),iL l0.aU ay.1,iL l0.bG ay.2.1,iL l0.Sections ay.2.2.1,iL l0.Links ay.2.2.2,own b1 26 (cK l0 ay),iL p0.aR ah.1,iL p0.Routes ah.2.1,iL p0.Lines ah.2.2.1,iL p0.Changes ah.2.2.2.1,iL p0.Turns ah.2.2.2.2.1,iL p0.bE ah.2.2.2.2.2.1,iL p0.bF ah.2.2.2.2.2.2,own b2 35 (dh p0 ah),aj 22 Im Br,own b6 112 [sL Im Br],gN 3 ig] 17 ?_
  refine aG 0 rfl aL ?_;refine aG 1 rfl (qP (ti:=3) (s:=(⟨[108,105,110,101]⟩:Str))) ?_;refine aG 2 rfl (av 0) ?_;refine aG 3 rfl (aF (b:=ES)) ?_;refine aG 4 rfl (qP (ti:=3) (s:=x31.Name)) ?_;refine aG 5 rfl (av 1) ?_;refine aG 6 rfl (aF (b:=b2)) ?_;refine aG 7 rfl (av 1) ?_;refine aG 8 rfl (aF (b:=ES)) ?_;obtain⟨x34,jy,hM⟩:=bind_some hM;refine aG 9 rfl (bD (xs:=p0.aR) 5 (kG p0.aR ah.1) (iS jy)) ?_;refine aG 10 rfl (av 0) ?_;refine aG 11 rfl (bT (i:=x31.aH) (xs:=p0.aR) (y:=x34) 0 (kG p0.aR ah.1) (fun _=>jy)) ?_;refine aG 12 rfl (qP (ti:=3) (s:=x34.Name)) ?_;refine aG 13 rfl (av 2) ?_;refine aG 14 rfl (aF (b:=ES)) ?_;refine aG 15 rfl (vN (ts:=9) (i:=x31.Weight)) ?_;refine dA 16 rfl (fD (α:=Any) 20 (fun _=>()) ([(Any.s (⟨[108,105,110,101]⟩:Str)),(Any.s x31.Name),(Any.s x34.Name),(Any.i x31.Weight)]:List Any) oF (fun Kl=>⟨rI,?_⟩));refine jr (fun w hm=>hm.freeze (r:=Kl) uA) ?_;obtain⟨wG,hy38,hM⟩:=bind_some hM;refine iQ rfl (nT sA (fun S w hs hP=>FL _ w b6 (lM.mk Br) Im ([(Any.s (⟨[108,105,110,101]⟩:Str)),(Any.s x31.Name),(Any.s x34.Name),(Any.i x31.Weight)]:List Any) Kl wG hy38 hP (kI hs) ((hA:Has _ (gN 3 ig)).φ hs)) (fun Ko=>?_))
  dsimp only[cA,nA];refine iP (Cc _ _ ?_);clear Cc;refine sr ?_;refine oe (av 3) ?_;refine oe (aF (b:=ES)) ?_;refine mF (fun w hm=>Kn.len ((Sk.elem (Sk.dw (α:=List Line) (r:=ah.2.2.1) (x:=p0.Lines) hA) hx32)).kn hm) fun asD=>?_;refine oe bL ?_;refine om ?_;refine on ?_;refine bH ?_;refine lp Ko hM (fun (yV,AA) FU=>[(2,eP b1),(3,eP b2),(6,eP b6),(76,eS ah.2.2.1 p0.Lines),(77,eI (p0.Lines.length:Int)),(78,eI (uJ:Int)),(101,eS (ah.2.2.1.es (uJ:Int).toNat) x31.aJ),(102,eI (x31.aJ.length:Int)),(103,eI (AA:Int))]) (fun (yV,AA) FU=>[iL l0.aU ay.1,iL l0.bG ay.2.1,iL l0.Sections ay.2.2.1,iL l0.Links ay.2.2.2,own b1 26 (cK l0 ay),iL p0.aR ah.1,iL p0.Routes ah.2.1,iL p0.Lines ah.2.2.1,iL p0.Changes ah.2.2.2.1,iL p0.Turns ah.2.2.2.2.1,iL p0.bE ah.2.2.2.2.2.1,iL p0.bF ah.2.2.2.2.2.2,own b2 35 (dh p0 ah),aj 22 FU yV,own b6 112 [sL FU yV],gN 3 ig]) sS rI ?_
  clear hM;rintro oH ⟨yV,AA⟩ FU hM Pm hL4;dsimp only[M7] at hM ⊢;refine sr ?_;refine oe bY ?_;refine on ?_;refine aK fun Yn Ce=>?_;refine cc rfl hM (fun GN hM=>?_) (fun GN hM=>?_)
  · have asl:=of_decide_eq_true GN;refine aX (Ce _ _ ?_);clear Ce;refine jn (SR (aC.R (List Str))) y (k:=Nb oH AA) (fun M0 TR=>[(2,eP b1),(3,eP b2),(6,eP b6),(76,eS ah.2.2.1 p0.Lines),(77,eI (p0.Lines.length:Int)),(78,eI (uJ:Int)),(101,eS (ah.2.2.1.es (uJ:Int).toNat) x31.aJ),(102,eI (x31.aJ.length:Int)),(103,eI (AA:Int))]) (fun M0 TR=>[iL l0.aU ay.1,iL l0.bG ay.2.1,iL l0.Sections ay.2.2.1,iL l0.Links ay.2.2.2,own b1 26 (cK l0 ay),iL p0.aR ah.1,iL p0.Routes ah.2.1,iL p0.Lines ah.2.2.1,iL p0.Changes ah.2.2.2.1,iL p0.Turns ah.2.2.2.2.1,iL p0.bE ah.2.2.2.2.2.1,iL p0.bF ah.2.2.2.2.2.2,own b2 35 (dh p0 ah),aj 22 TR M0,own b6 112 [sL TR M0],gN 3 ig]) ?_ ?_
    ·intro Pk vR;refine bH ?_;refine sr ?_;obtain⟨gY,GV,hM⟩:=bind_some hM;refine oe (bD (xs:=x31.aJ) 4 ((Sk.elem (Sk.dw (α:=List Line) (r:=ah.2.2.1) (x:=p0.Lines) hA) hx32)).kn (iS GV)) ?_;refine oe (fM (m:=4) (i:=(AA:Int)) (xs:=x31.aJ) (y:=gY) (l:=(wY gY)) 0 ((Sk.elem (Sk.dw (α:=List Line) (r:=ah.2.2.1) (x:=p0.Lines) hA) hx32)).kn (fun _=>GV)) ?_;refine oA rfl fun qN=>?_;refine oS qN (wY gY) ?_;refine on ?_;refine sr ?_;refine oe (av 3) ?_;refine oe (aF (b:=qN)) ?_;refine oe gZ ?_;refine on ?_;refine cc rfl hM (fun alS hM=>?_) (fun alS hM=>?_)
     ·refine iW [own qN 58 (wY gY),iL l0.aU ay.1,iL l0.bG ay.2.1,iL l0.Sections ay.2.2.1,iL l0.Links ay.2.2.2,own b1 26 (cK l0 ay),iL p0.aR ah.1,iL p0.Routes ah.2.1,iL p0.Lines ah.2.2.1,iL p0.Changes ah.2.2.2.1,iL p0.Turns ah.2.2.2.2.1,iL p0.bE ah.2.2.2.2.2.1,iL p0.bF ah.2.2.2.2.2.2,own b2 35 (dh p0 ah),aj 22 FU yV,own b6 112 [sL FU yV],gN 3 ig] 15 ?_;refine aG 0 rfl aL ?_;refine aG 1 rfl (qP (ti:=3) (s:=(⟨[114,105,100,101]⟩:Str))) ?_;refine aG 2 rfl (av 0) ?_
      refine aG 3 rfl (aF (b:=qN)) ?_;refine aG 4 rfl (vN (ts:=9) (i:=gY.aO)) ?_;refine aG 5 rfl (av 1) ?_;refine aG 6 rfl (aF (b:=qN)) ?_;refine aG 7 rfl (vN (ts:=9) (i:=gY.Extra)) ?_;refine aG 8 rfl (av 2) ?_;refine aG 9 rfl (aF (b:=qN)) ?_;refine aG 10 rfl (av 3) ?_;refine aG 11 rfl (aF (b:=qN)) ?_;obtain⟨tC,hy47,hM⟩:=bind_some hM;refine dA 12 rfl (sV (fun hs=>abv _ _ gY.Min gY.Max tC hy47 (bf hs) (Chunk.mono _ _ _ _ (fun _ h=> .inl h) ((hA:Has _ (gN 3 ig)).φ hs))) ⟨rI,?_⟩);refine aG 13 rfl (qP (ti:=3) (s:=tC)) ?_;refine dA 14 rfl (fD (α:=Any) 20 (fun _=>()) ([(Any.s (⟨[114,105,100,101]⟩:Str)),(Any.i gY.aO),(Any.i gY.Extra),(Any.s tC)]:List Any) oF (fun fB=>⟨rI,?_⟩));refine jr (fun w hm=>hm.freeze (r:=fB) uA) ?_;obtain⟨tF,JG,hM⟩:=bind_some hM;refine iQ rfl (nT sA (fun S w hs hP=>FL _ w b6 (lM.mk yV) FU ([(Any.s (⟨[114,105,100,101]⟩:Str)),(Any.i gY.aO),(Any.i gY.Extra),(Any.s tC)]:List Any) fB tF JG hP (kI hs) ((hA:Has _ (gN 3 ig)).φ hs)) (fun r51=>?_));dsimp only[cA,nA];refine iP (vR r51 hM sS rI)
     refine bB ?_;refine om ?_;refine oe (qP (ti:=3) (s:=(⟨[114,105,100,101]⟩:Str))) ?_;refine oe (av 0) ?_;refine oe (aF (b:=qN)) ?_;refine oe (vN (ts:=9) (i:=gY.aO)) ?_;refine oe (av 1) ?_;refine oe (aF (b:=qN)) ?_;refine oe (vN (ts:=9) (i:=gY.Extra)) ?_;refine bM (fD (α:=Any) 20 (fun _=>()) ([(Any.s (⟨[114,105,100,101]⟩:Str)),(Any.i gY.aO),(Any.i gY.Extra)]:List Any) oF (fun Kr=>?_));refine mU (fun w hm=>hm.freeze (r:=Kr) uA) ?_;obtain⟨jJ,Ea,hM⟩:=bind_some hM;refine bM (nT sA (fun S w hs hP=>FL _ w b6 (lM.mk yV) FU ([(Any.s (⟨[114,105,100,101]⟩:Str)),(Any.i gY.aO),(Any.i gY.Extra)]:List Any) Kr jJ Ea hP (kI hs) ((hA:Has _ (gN 3 ig)).φ hs)) (fun r55=>?_));dsimp only[cA,nA];refine bC (vR r55 hM sS rI)
    clear hM;rintro M0 TR hM;dsimp only[Nb] at hM ⊢;refine bB ?_;refine oe (eH (hr:=fun _=>by unfold gF;omega)) ?_;refine om ?_;refine bC (hL4 TR hM sS rI)
  refine dK (tX _ _ ?_);clear tX;dsimp only[afR] at hM;refine bB ?_;refine oe (eH (hr:=fun _=>by unfold gF;omega)) ?_;refine om ?_;refine bC (hL3 FU hM sS rI)
 refine dK (nX _ _ ?_);clear nX;dsimp only[Na] at hM;refine aK fun UK yP=>?_;refine sr ?_;refine oe (av 4) ?_;refine oe (aF (b:=b2)) ?_;refine mF (fun w hm=>Kn.len (kG p0.Changes ah.2.2.2.1) hm) fun asE=>?_;refine oe bL ?_;refine om ?_;refine on ?_;refine bH ?_;refine lp Im hM (fun (Bt,IG) Io=>[(2,eP b1),(3,eP b2),(6,eP b6),(139,eS ah.2.2.2.1 p0.Changes),(140,eI (p0.Changes.length:Int)),(141,eI (IG:Int))]) (fun (Bt,IG) Io=>[iL l0.aU ay.1,iL l0.bG ay.2.1,iL l0.Sections ay.2.2.1,iL l0.Links ay.2.2.2,own b1 26 (cK l0 ay),iL p0.aR ah.1,iL p0.Routes ah.2.1,iL p0.Lines ah.2.2.1,iL p0.Changes ah.2.2.2.1,iL p0.Turns ah.2.2.2.2.1,iL p0.bE ah.2.2.2.2.2.1,iL p0.bF ah.2.2.2.2.2.2,own b2 35 (dh p0 ah),aj 22 Io Bt,own b6 112 [sL Io Bt],gN 3 ig]) sS rI ?_
 clear hM;rintro BU ⟨Bt,IG⟩ Io hM Yr hL5;dsimp only[RN] at hM ⊢;refine sr ?_;refine oe bY ?_;refine on ?_;refine aK fun Yo Cg=>?_;refine cc rfl hM (fun aeC hM=>?_) (fun aeC hM=>?_)
 ·have asn:=of_decide_eq_true aeC;refine aX (Cg _ _ ?_);clear Cg;refine aK fun Yp Ch=>?_;refine bH ?_;refine sr ?_;obtain⟨qp,ae3,hM⟩:=bind_some hM;refine oe (bD (xs:=p0.Changes) 7 (kG p0.Changes ah.2.2.2.1) (iS ae3)) ?_;refine oe (fM (m:=7) (i:=(IG:Int)) (xs:=p0.Changes) (y:=qp) (l:=(Ep qp)) 0 (kG p0.Changes ah.2.2.2.1) (fun _=>ae3)) ?_;refine oA rfl fun ET=>?_;refine oS ET (Ep qp) ?_;refine on ?_;refine iW [own ET 79 (Ep qp),iL l0.aU ay.1,iL l0.bG ay.2.1,iL l0.Sections ay.2.2.1,iL l0.Links ay.2.2.2,own b1 26 (cK l0 ay),iL p0.aR ah.1,iL p0.Routes ah.2.1,iL p0.Lines ah.2.2.1,iL p0.Changes ah.2.2.2.1,iL p0.Turns ah.2.2.2.2.1,iL p0.bE ah.2.2.2.2.2.1,iL p0.bF ah.2.2.2.2.2.2,own b2 35 (dh p0 ah),aj 22 Io Bt,own b6 112 [sL Io Bt],gN 3 ig] 34 ?_
  refine aG 0 rfl aL ?_;refine aG 1 rfl (qP (ti:=3) (s:=(⟨[99,104,97,110,103,101]⟩:Str))) ?_;refine aG 2 rfl (av 3) ?_;refine aG 3 rfl (aF (b:=b2)) ?_;refine aG 4 rfl (av 0) ?_;refine aG 5 rfl (aF (b:=ET)) ?_;obtain⟨Dz,QI,hM⟩:=bind_some hM;refine aG 6 rfl (bD (xs:=p0.Lines) 4 (kG p0.Lines ah.2.2.1) (iS QI)) ?_;refine aG 7 rfl (av 0) ?_;refine aG 8 rfl (bT (i:=qp.fZ) (xs:=p0.Lines) (y:=Dz) 0 (kG p0.Lines ah.2.2.1) (fun _=>QI)) ?_;refine aG 9 rfl (qP (ti:=3) (s:=Dz.Name)) ?_;refine aG 10 rfl (av 1) ?_;refine aG 11 rfl (aF (b:=ET)) ?_;refine aG 12 rfl (vN (ts:=9) (i:=qp.iE)) ?_;refine aG 13 rfl (av 3) ?_;refine aG 14 rfl (aF (b:=b2)) ?_;refine aG 15 rfl (av 2) ?_;refine aG 16 rfl (aF (b:=ET)) ?_;obtain⟨EK,QJ,hM⟩:=bind_some hM;refine aG 17 rfl (bD (xs:=p0.Lines) 4 (kG p0.Lines ah.2.2.1) (iS QJ)) ?_;refine aG 18 rfl (av 0) ?_;refine aG 19 rfl (bT (i:=qp.iO) (xs:=p0.Lines) (y:=EK) 0 (kG p0.Lines ah.2.2.1) (fun _=>QJ)) ?_;refine aG 20 rfl (qP (ti:=3) (s:=EK.Name)) ?_;refine aG 21 rfl (av 3) ?_;refine aG 22 rfl (aF (b:=ET)) ?_
  refine aG 23 rfl (vN (ts:=9) (i:=qp.kN)) ?_;refine aG 24 rfl (av 4) ?_;refine aG 25 rfl (aF (b:=ET)) ?_;refine aG 26 rfl (av 5) ?_;refine aG 27 rfl (aF (b:=ET)) ?_;refine aG 30 rfl (av 6) ?_;refine aG 31 rfl (aF (b:=ET)) ?_;refine aG 32 rfl (vN (ts:=9) (i:=qp.Weight)) ?_;obtain⟨O9,aog,hM⟩:=bind_some hM;refine dA 28 rfl (sV (fun hs=>abv _ _ qp.Min qp.Max O9 aog (bf hs) (Chunk.mono _ _ _ _ (fun _ h=> .inl h) ((hA:Has _ (gN 3 ig)).φ hs))) ⟨rI,?_⟩);refine aG 29 rfl (qP (ti:=3) (s:=O9)) ?_;refine dA 33 rfl (fD (α:=Any) 20 (fun _=>()) ([(Any.s (⟨[99,104,97,110,103,101]⟩:Str)),(Any.s Dz.Name),(Any.i qp.iE),(Any.s EK.Name),(Any.i qp.kN),(Any.s O9),(Any.i qp.Weight)]:List Any) oF (fun r67=>⟨rI,?_⟩));refine jr (fun w hm=>hm.freeze (r:=r67) uA) ?_;obtain⟨y68,aoh,hM⟩:=bind_some hM;refine iQ rfl (nT sA (fun S w hs hP=>FL _ w b6 (lM.mk Bt) Io ([(Any.s (⟨[99,104,97,110,103,101]⟩:Str)),(Any.s Dz.Name),(Any.i qp.iE),(Any.s EK.Name),(Any.i qp.kN),(Any.s O9),(Any.i qp.Weight)]:List Any) r67 y68 aoh hP (kI hs) ((hA:Has _ (gN 3 ig)).φ hs)) (fun r70=>?_));dsimp only[cA,nA];refine iP (Ch _ _ ?_);clear Ch;refine bB ?_;refine oe (eH (hr:=fun _=>by unfold gF;omega)) ?_
  refine om ?_;refine bC (hL5 r70 hM sS rI)
 refine dK (yP _ _ ?_);clear yP;dsimp only[Nc] at hM;refine aK fun Yq Ci=>?_;refine sr ?_;refine oe (av 5) ?_;refine oe (aF (b:=b2)) ?_;refine mF (fun w hm=>Kn.len (kG p0.Turns ah.2.2.2.2.1) hm) fun asF=>?_;refine oe bL ?_;refine om ?_;refine on ?_;refine bH ?_;refine lp Io hM (fun (Bu,II) Ip=>[(2,eP b1),(3,eP b2),(6,eP b6),(182,eS ah.2.2.2.2.1 p0.Turns),(183,eI (p0.Turns.length:Int)),(184,eI (II:Int))]) (fun (Bu,II) Ip=>[iL l0.aU ay.1,iL l0.bG ay.2.1,iL l0.Sections ay.2.2.1,iL l0.Links ay.2.2.2,own b1 26 (cK l0 ay),iL p0.aR ah.1,iL p0.Routes ah.2.1,iL p0.Lines ah.2.2.1,iL p0.Changes ah.2.2.2.1,iL p0.Turns ah.2.2.2.2.1,iL p0.bE ah.2.2.2.2.2.1,iL p0.bF ah.2.2.2.2.2.2,own b2 35 (dh p0 ah),aj 22 Ip Bu,own b6 112 [sL Ip Bu],gN 3 ig]) sS rI ?_
 clear hM;rintro Gv ⟨Bu,II⟩ Ip hM KL6 hL6;dsimp only[RO] at hM ⊢;refine sr ?_;refine oe bY ?_;refine on ?_;refine aK fun K40 GL=>?_;refine cc rfl hM (fun aeD hM=>?_) (fun aeD hM=>?_)
 ·have asq:=of_decide_eq_true aeD;refine aX (GL _ _ ?_);clear GL;refine aK fun K41 Qn=>?_;refine bH ?_;refine sr ?_;obtain⟨AV,ae6,hM⟩:=bind_some hM;refine oe (bD (xs:=p0.Turns) 4 (kG p0.Turns ah.2.2.2.2.1) (iS ae6)) ?_;refine oe (fM (m:=4) (i:=(II:Int)) (xs:=p0.Turns) (y:=AV) (l:=(vg AV)) 0 (kG p0.Turns ah.2.2.2.2.1) (fun _=>ae6)) ?_;refine oA rfl fun LW=>?_;refine oS LW (vg AV) ?_;refine on ?_;refine iW [own LW 94 (vg AV),iL l0.aU ay.1,iL l0.bG ay.2.1,iL l0.Sections ay.2.2.1,iL l0.Links ay.2.2.2,own b1 26 (cK l0 ay),iL p0.aR ah.1,iL p0.Routes ah.2.1,iL p0.Lines ah.2.2.1,iL p0.Changes ah.2.2.2.1,iL p0.Turns ah.2.2.2.2.1,iL p0.bE ah.2.2.2.2.2.1,iL p0.bF ah.2.2.2.2.2.2,own b2 35 (dh p0 ah),aj 22 Ip Bu,own b6 112 [sL Ip Bu],gN 3 ig] 25 ?_
  refine aG 0 rfl aL ?_;refine aG 1 rfl (qP (ti:=3) (s:=(⟨[116,117,114,110]⟩:Str))) ?_;refine aG 2 rfl (av 3) ?_;refine aG 3 rfl (aF (b:=b2)) ?_;refine aG 4 rfl (av 0) ?_;refine aG 5 rfl (aF (b:=LW)) ?_;obtain⟨O4,Fu,hM⟩:=bind_some hM;refine aG 6 rfl (bD (xs:=p0.Lines) 4 (kG p0.Lines ah.2.2.1) (iS Fu)) ?_;refine aG 7 rfl (av 0) ?_;refine aG 8 rfl (bT (i:=AV.From) (xs:=p0.Lines) (y:=O4) 0 (kG p0.Lines ah.2.2.1) (fun _=>Fu)) ?_;refine aG 9 rfl (qP (ti:=3) (s:=O4.Name)) ?_;refine aG 10 rfl (av 3) ?_;refine aG 11 rfl (aF (b:=b2)) ?_;refine aG 12 rfl (av 1) ?_;refine aG 13 rfl (aF (b:=LW)) ?_;obtain⟨tq,Co,hM⟩:=bind_some hM;refine aG 14 rfl (bD (xs:=p0.Lines) 4 (kG p0.Lines ah.2.2.1) (iS Co)) ?_;refine aG 15 rfl (av 0) ?_;refine aG 16 rfl (bT (i:=AV.To) (xs:=p0.Lines) (y:=tq) 0 (kG p0.Lines ah.2.2.1) (fun _=>Co)) ?_;refine aG 17 rfl (qP (ti:=3) (s:=tq.Name)) ?_;refine aG 18 rfl (av 2) ?_;refine aG 19 rfl (aF (b:=LW)) ?_;refine aG 20 rfl (av 3) ?_;refine aG 21 rfl (aF (b:=LW)) ?_;obtain⟨DL,aaA,hM⟩:=bind_some hM;refine dA 22 rfl (sV (fun hs=>abv _ _ AV.Min AV.Max DL aaA (bf hs) (Chunk.mono _ _ _ _ (fun _ h=> .inl h) ((hA:Has _ (gN 3 ig)).φ hs))) ⟨rI,?_⟩)
  refine aG 23 rfl (qP (ti:=3) (s:=DL)) ?_;refine dA 24 rfl (fD (α:=Any) 20 (fun _=>()) ([(Any.s (⟨[116,117,114,110]⟩:Str)),(Any.s O4.Name),(Any.s tq.Name),(Any.s DL)]:List Any) oF (fun r82=>⟨rI,?_⟩));refine jr (fun w hm=>hm.freeze (r:=r82) uA) ?_;obtain⟨y83,aom,hM⟩:=bind_some hM;refine iQ rfl (nT sA (fun S w hs hP=>FL _ w b6 (lM.mk Bu) Ip ([(Any.s (⟨[116,117,114,110]⟩:Str)),(Any.s O4.Name),(Any.s tq.Name),(Any.s DL)]:List Any) r82 y83 aom hP (kI hs) ((hA:Has _ (gN 3 ig)).φ hs)) (fun Wq=>?_));dsimp only[cA,nA];refine iP (Qn _ _ ?_);clear Qn;refine bB ?_;refine oe (eH (hr:=fun _=>by unfold gF;omega)) ?_;refine om ?_;refine bC (hL6 Wq hM sS rI)
 refine dK (Ci _ _ ?_);clear Ci;dsimp only[Nf] at hM;refine aK fun K43 Qo=>?_;refine sr ?_;refine oe (av 6) ?_;refine oe (aF (b:=b2)) ?_;refine mF (fun w hm=>Kn.len (kG p0.bE ah.2.2.2.2.2.1) hm) fun asG=>?_;refine oe bL ?_;refine om ?_;refine on ?_;refine bH ?_;refine lp Ip hM (fun (Bv,IJ) Iq=>[(2,eP b1),(3,eP b2),(6,eP b6),(216,eS ah.2.2.2.2.2.1 p0.bE),(217,eI (p0.bE.length:Int)),(218,eI (IJ:Int))]) (fun (Bv,IJ) Iq=>[iL l0.aU ay.1,iL l0.bG ay.2.1,iL l0.Sections ay.2.2.1,iL l0.Links ay.2.2.2,own b1 26 (cK l0 ay),iL p0.aR ah.1,iL p0.Routes ah.2.1,iL p0.Lines ah.2.2.1,iL p0.Changes ah.2.2.2.1,iL p0.Turns ah.2.2.2.2.1,iL p0.bE ah.2.2.2.2.2.1,iL p0.bF ah.2.2.2.2.2.2,own b2 35 (dh p0 ah),aj 22 Iq Bv,own b6 112 [sL Iq Bv],gN 3 ig]) sS rI ?_
 clear hM;rintro Gw ⟨Bv,IJ⟩ Iq hM KL7 hL7;dsimp only[RP] at hM ⊢;refine sr ?_;refine oe bY ?_;refine on ?_;refine aK fun K46 Qp=>?_;refine cc rfl hM (fun aeE hM=>?_) (fun aeE hM=>?_)
 ·have asu:=of_decide_eq_true aeE;refine aX (Qp _ _ ?_);clear Qp;refine aK fun K47 Qq=>?_;refine bH ?_;refine sr ?_;obtain⟨x88,ae8,hM⟩:=bind_some hM;refine oe (bD (xs:=p0.bE) 5 (kG p0.bE ah.2.2.2.2.2.1) (iS ae8)) ?_;refine oe (fM (m:=5) (i:=(IJ:Int)) (xs:=p0.bE) (y:=x88) (l:=(FK x88)) 0 (kG p0.bE ah.2.2.2.2.2.1) (fun _=>ae8)) ?_;refine oA rfl fun Jf=>?_;refine oS Jf (FK x88) ?_;refine on ?_;refine iW [own Jf 84 (FK x88),iL l0.aU ay.1,iL l0.bG ay.2.1,iL l0.Sections ay.2.2.1,iL l0.Links ay.2.2.2,own b1 26 (cK l0 ay),iL p0.aR ah.1,iL p0.Routes ah.2.1,iL p0.Lines ah.2.2.1,iL p0.Changes ah.2.2.2.1,iL p0.Turns ah.2.2.2.2.1,iL p0.bE ah.2.2.2.2.2.1,iL p0.bF ah.2.2.2.2.2.2,own b2 35 (dh p0 ah),aj 22 Iq Bv,own b6 112 [sL Iq Bv],gN 3 ig] 28 ?_
  refine aG 0 rfl aL ?_;refine aG 1 rfl (qP (ti:=3) (s:=(⟨[115,121,110,99]⟩:Str))) ?_;refine aG 2 rfl (av 3) ?_;refine aG 3 rfl (aF (b:=b2)) ?_;refine aG 4 rfl (av 0) ?_;refine aG 5 rfl (aF (b:=Jf)) ?_;obtain⟨x91,QK,hM⟩:=bind_some hM;refine aG 6 rfl (bD (xs:=p0.Lines) 4 (kG p0.Lines ah.2.2.1) (iS QK)) ?_;refine aG 7 rfl (av 0) ?_;refine aG 8 rfl (bT (i:=x88.mJ) (xs:=p0.Lines) (y:=x91) 0 (kG p0.Lines ah.2.2.1) (fun _=>QK)) ?_;refine aG 9 rfl (qP (ti:=3) (s:=x91.Name)) ?_;refine aG 10 rfl (av 1) ?_;refine aG 11 rfl (aF (b:=Jf)) ?_;refine aG 12 rfl (vN (ts:=9) (i:=x88.lG)) ?_;refine aG 13 rfl (av 3) ?_;refine aG 14 rfl (aF (b:=b2)) ?_;refine aG 15 rfl (av 2) ?_;refine aG 16 rfl (aF (b:=Jf)) ?_;obtain⟨x93,ae9,hM⟩:=bind_some hM;refine aG 17 rfl (bD (xs:=p0.Lines) 4 (kG p0.Lines ah.2.2.1) (iS ae9)) ?_;refine aG 18 rfl (av 0) ?_;refine aG 19 rfl (bT (i:=x88.mP) (xs:=p0.Lines) (y:=x93) 0 (kG p0.Lines ah.2.2.1) (fun _=>ae9)) ?_;refine aG 20 rfl (qP (ti:=3) (s:=x93.Name)) ?_;refine aG 21 rfl (av 3) ?_;refine aG 22 rfl (aF (b:=Jf)) ?_
  refine aG 23 rfl (vN (ts:=9) (i:=x88.lN)) ?_;refine aG 24 rfl (av 4) ?_;refine aG 25 rfl (aF (b:=Jf)) ?_;refine aG 26 rfl (vN (ts:=9) (i:=x88.Offset)) ?_;refine dA 27 rfl (fD (α:=Any) 20 (fun _=>()) ([(Any.s (⟨[115,121,110,99]⟩:Str)),(Any.s x91.Name),(Any.i x88.lG),(Any.s x93.Name),(Any.i x88.lN),(Any.i x88.Offset)]:List Any) oF (fun ND=>⟨rI,?_⟩));refine jr (fun w hm=>hm.freeze (r:=ND) uA) ?_;obtain⟨y96,aoo,hM⟩:=bind_some hM;refine iQ rfl (nT sA (fun S w hs hP=>FL _ w b6 (lM.mk Bv) Iq ([(Any.s (⟨[115,121,110,99]⟩:Str)),(Any.s x91.Name),(Any.i x88.lG),(Any.s x93.Name),(Any.i x88.lN),(Any.i x88.Offset)]:List Any) ND y96 aoo hP (kI hs) ((hA:Has _ (gN 3 ig)).φ hs)) (fun r98=>?_));dsimp only[cA,nA];refine iP (Qq _ _ ?_);clear Qq;refine bB ?_;refine oe (eH (hr:=fun _=>by unfold gF;omega)) ?_;refine om ?_;refine bC (hL7 r98 hM sS rI)
 refine dK (Qo _ _ ?_);clear Qo;dsimp only[Ng] at hM;refine aK fun K49 aer=>?_;refine sr ?_;refine oe (av 7) ?_;refine oe (aF (b:=b2)) ?_;refine mF (fun w hm=>Kn.len (kG p0.bF ah.2.2.2.2.2.2) hm) fun asH=>?_;refine oe bL ?_;refine om ?_;refine on ?_;refine bH ?_;refine lp Iq hM (fun (Ab,IK) Ir=>[(2,eP b1),(6,eP b6),(253,eS ah.2.2.2.2.2.2 p0.bF),(254,eI (p0.bF.length:Int)),(255,eI (IK:Int))]) (fun (Ab,IK) Ir=>[iL l0.aU ay.1,iL l0.bG ay.2.1,iL l0.Sections ay.2.2.1,iL l0.Links ay.2.2.2,own b1 26 (cK l0 ay),aj 22 Ir Ab,own b6 112 [sL Ir Ab],iL p0.bF ah.2.2.2.2.2.2,gN 3 ig]) sS rI ?_;clear hM;rintro PV ⟨Ab,IK⟩ Ir hM KL8 Zn;dsimp only[RQ] at hM ⊢;refine sr ?_
 refine oe bY ?_;refine on ?_;refine aK fun K52 Qr=>?_;refine cc rfl hM (fun Vt hM=>?_) (fun Vt hM=>?_)
 ·have ar9:=of_decide_eq_true Vt;refine aX (Qr _ _ ?_);clear Qr;refine aK fun K53 Qs=>?_;refine bH ?_;refine sr ?_;obtain⟨x101,hx102,hM⟩:=bind_some hM;refine oe (bD (xs:=p0.bF) 3 (kG p0.bF ah.2.2.2.2.2.2) (iS hx102)) ?_;refine oe (fM (m:=3) (i:=(IK:Int)) (xs:=p0.bF) (y:=x101) (l:=(FJ x101)) 0 (kG p0.bF ah.2.2.2.2.2.2) (fun _=>hx102)) ?_;refine oA rfl fun Pt=>?_;refine oS Pt (FJ x101) ?_;refine on ?_;refine iW [own Pt 86 (FJ x101),iL l0.aU ay.1,iL l0.bG ay.2.1,iL l0.Sections ay.2.2.1,iL l0.Links ay.2.2.2,own b1 26 (cK l0 ay),aj 22 Ir Ab,own b6 112 [sL Ir Ab],iL p0.bF ah.2.2.2.2.2.2,gN 3 ig] 20 ?_;refine aG 0 rfl aL ?_;refine aG 1 rfl (qP (ti:=3) (s:=(⟨[100,101,109,97,110,100]⟩:Str))) ?_
  refine aG 2 rfl (av 0) ?_;refine aG 3 rfl (aF (b:=b1)) ?_;refine aG 4 rfl (av 0) ?_;refine aG 5 rfl (aF (b:=Pt)) ?_;obtain⟨x104,aeK,hM⟩:=bind_some hM;refine aG 6 rfl (bD (xs:=l0.aU) 1 (kG l0.aU ay.1) (iS aeK)) ?_;refine aG 7 rfl (bT (i:=x101.From) (xs:=l0.aU) (y:=x104) 0 (kG l0.aU ay.1) (fun _=>aeK)) ?_;refine aG 8 rfl (qP (ti:=3) (s:=x104)) ?_;refine aG 9 rfl (av 0) ?_;refine aG 10 rfl (aF (b:=b1)) ?_;refine aG 11 rfl (av 1) ?_;refine aG 12 rfl (aF (b:=Pt)) ?_;obtain⟨OZ,Z8,hM⟩:=bind_some hM;refine aG 13 rfl (bD (xs:=l0.aU) 1 (kG l0.aU ay.1) (iS Z8)) ?_;refine aG 14 rfl (bT (i:=x101.To) (xs:=l0.aU) (y:=OZ) 0 (kG l0.aU ay.1) (fun _=>Z8)) ?_;refine aG 15 rfl (qP (ti:=3) (s:=OZ)) ?_;refine aG 16 rfl (av 2) ?_;refine aG 17 rfl (aF (b:=Pt)) ?_;refine aG 18 rfl (vN (ts:=9) (i:=x101.Weight)) ?_;refine dA 19 rfl (fD (α:=Any) 20 (fun _=>()) ([(Any.s (⟨[100,101,109,97,110,100]⟩:Str)),(Any.s x104),(Any.s OZ),(Any.i x101.Weight)]:List Any) oF (fun agM=>⟨rI,?_⟩));refine jr (fun w hm=>hm.freeze (r:=agM) uA) ?_;obtain⟨ac3,anO,hM⟩:=bind_some hM
  refine iQ rfl (nT sA (fun S w hs hP=>FL _ w b6 (lM.mk Ab) Ir ([(Any.s (⟨[100,101,109,97,110,100]⟩:Str)),(Any.s x104),(Any.s OZ),(Any.i x101.Weight)]:List Any) agM ac3 anO hP (kI hs) ((hA:Has _ (gN 3 ig)).φ hs)) (fun aqa=>?_));dsimp only[cA,nA];refine iP (Qs _ _ ?_);clear Qs;refine bB ?_;refine oe (eH (hr:=fun _=>by unfold gF;omega)) ?_;refine om ?_;refine bC (Zn aqa hM sS rI)
 refine dK (aer _ _ ?_);clear aer;dsimp only[afS] at hM;refine aW ?_;refine oe fI ?_;refine oe (av 0) ?_;refine oe (aF (b:=b6)) ?_;obtain⟨y112,hy113,hM⟩:=bind_some hM;refine cv (fun hs=>arY _ _ Ab Ir y112 hy113 (bf hs) (kT hs)) ?_;refine oa ?_;refine aT ?_;exact aY (zk hM)
end Go.Proofs.YtcalibhfgdncaaaGreatDoor

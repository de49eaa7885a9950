/- Models of functions, and that the code computes them. -/
import Derived.Test.YtcalibhfgdncaaaGreatDoorR0
set_option linter.all false
namespace Go.Proofs.YtcalibhfgdncaaaGreatDoor
open Go.Dc Go.RowKit
set_option maxRecDepth 10000
def V7(c0:Int):Option Bool:=
 some ((decide (33≤c0)&&decide (c0≤126))&&decide (c0≠35))
theorem afR(S:bB)(w:World)(c0:Int)(y:Bool)(hM:V7 c0=some y)(hS:sB S w):
  Calls Tryz.prog 170 #[.int .u8 c0] w (cu w (.bool y)):=by
 refine bP (args:=[_]) Tryz.func170 rfl ((pre_nil hS).start) rfl ?_;unfold V7 at hM;refine bD ?_;refine aO ?_;refine oe jf ?_;refine om ?_;refine av rfl aH ?_;refine av rfl pU ?_;refine oe dI ?_;refine om ?_;refine av rfl aH ?_;refine av rfl iy ?_;refine oe dI ?_;refine aP ?_;exact aW (bN hM)
def Sd(bM:Nat)(aY:((List Word)×Nat)→Option ((List Word)×Int)):(List Word)→Option ((List Word)×Int):=fun Mh=>
 bG (bW ((bM:Int)+1))<|
 aY (Mh,bM+1)
def afQ(oQ:List Word):Unit→Option ((List Word)×Int):=fun _=>
 if decide (64<(oQ.length:Int)) then
  (some (([]:List Word),7))
 else
  (some (oQ,0))
def afP(s0:Str)(dR:Int)(aY:((List Word)×Nat)→Option ((List Word)×Int)):((List Word)×Nat)→Option ((List Word)×Int):=fun (oQ,bM)=>
 (fV (decide ((bM:Int)<(s0.l.length:Int))) 0 (lX s0 (bM:Int))).bind fun c2=>
 if (decide ((bM:Int)<(s0.l.length:Int))&&decide (c2≠35)) then
  ((lX s0 (bM:Int)).bind fun c6=>
  (fV (!(decide (c6=32))) 0 (lX s0 (bM:Int))).bind fun c8=>
  if (decide (c6=32)||decide (c8=9)) then
   (Sd bM aY oQ)
  else
   ((lX s0 (bM:Int)).bind fun c11=>
   (V7 c11).bind fun y13=>
   if (!y13) then
    (some (([]:List Word),2))
   else
    (bG (!(decide (0<(bM:Int)))||bW ((bM:Int)-1))<|
    (fV (decide (0<(bM:Int))) 0 (lX s0 ((bM:Int)-1))).bind fun c18=>
    (fV (decide (0<(bM:Int))) default (V7 c18)).bind fun y20=>
    if (decide (0<(bM:Int))&&y20) then
     (bG (bW ((oQ.length:Int)-1))<|
     (idx oQ ((oQ.length:Int)-1)).bind fun x24=>
     bG (bW ((bM:Int)+1))<|
     (mo s0 (bM:Int) ((bM:Int)+1)).bind fun q27=>
     (vM x24.Text q27).bind fun RN=>
     (idx oQ ((oQ.length:Int)-1)).bind fun x31=>
     Sd bM aY (oQ.set ((oQ.length:Int)-1).toNat (Word.mk RN x31.Line x31.Col)))
    else
     (bG (bW ((bM:Int)+1))<|
     (mo s0 (bM:Int) ((bM:Int)+1)).bind fun RO=>
     bG (bW ((bM:Int)+1))<|
     bG (decide ((oQ.length+([(Word.mk RO dR ((bM:Int)+1))]:List Word).length)*32≤140737488355328))<|
     Sd bM aY (oQ++([(Word.mk RO dR ((bM:Int)+1))]:List Word))))))
 else
  (afQ oQ ())
def abb(s0:Str)(dR:Int):Option ((List Word)×Int):=
 iter (afP s0 dR) FUEL (([]:List Word),0)
theorem aoj(S:bB)(w:World)(s0:Str)(dR:Int)(y:(List Word)×Int)(hM:abb s0 dR=some y)(hS:sB S w):
   Calls Tryz.prog 130 #[.string s0.ba,vI dR] w (Post (β:=(ak.R (List Word))) S [] (fun g=> .tuple #[sL g y.1,vI y.2]) (fun g=>[ah 108 g y.1]) w):=by
 refine bP (args:=[_,_]) Tryz.func130 rfl ((pre_nil hS).start) rfl ?_;unfold abb at hM;refine sr ?_;refine oa ?_;refine aP ?_;refine bD ?_;refine aG fun K3 hK3=>?_;refine bD ?_;refine bF ?_;refine bQ (fun w hm=>hm.bV (α:=Word) 108 (fun _=>())) ?_;refine lp GZ hM (fun (oQ,bM) zR=>[(0,.v (.string s0.ba)),(1,eI dR),(6,eS zR oQ),(7,eI (bM:Int))]) (fun (oQ,bM) zR=>[ah 108 zR oQ]) sS rI ?_;clear hM;rintro aY ⟨oQ,bM⟩ zR hM gu hL1;dsimp only[afP] at hM ⊢;refine aG fun K5 bS=>?_;refine aO ?_;refine om ?_;refine oe mZ ?_;refine oe cO ?_;refine om ?_;refine av rfl aH ?_;refine av rfl aH ?_;obtain⟨c2,akt,hM⟩:=bind_some hM;refine av rfl (qp (fu akt)) ?_;refine av rfl iy ?_;refine oe dI ?_;refine on ?_;refine cc rfl hM (fun hc4 hM=>?_) (fun hc4 hM=>?_)
 ·refine aX (bS _ _ ?_);clear bS;refine jn (SR (ak.R Word)) y (k:=Sd bM aY) (fun Mh Si=>[(0,.v (.string s0.ba)),(1,eI dR),(6,eS Si Mh),(7,eI (bM:Int))]) (fun Mh Si=>[ah 108 Si Mh]) ?_ ?_
  · intro za hJ2;refine bF ?_;refine aG fun K7 dZ=>?_;refine aO ?_;refine om ?_;obtain⟨c6,Zc,hM⟩:=bind_some hM;refine oe (qp (fun _=>Zc)) ?_;refine oe eu ?_;refine om ?_;refine av rfl aH ?_;refine av rfl aH ?_;obtain⟨c8,PE,hM⟩:=bind_some hM;refine av rfl (qp (fu PE)) ?_;refine av rfl eu ?_;refine oe eT ?_;refine on ?_;refine cc rfl hM (fun uh hM=>?_) (fun uh hM=>?_)
    ·refine dL (hJ2 zR hM sS rI)
    refine aX (dZ _ _ ?_);clear dZ;refine aG fun K9 dU=>?_;refine aO ?_;refine om ?_;obtain⟨c11,Pz,hM⟩:=bind_some hM;refine oe (qp (fun _=>Pz)) ?_;obtain⟨y13,xC,hM⟩:=bind_some hM;refine cv (fun hs=>afR _ _ c11 y13 xC (bC hs)) ?_;refine oe fF ?_;refine on ?_;refine cc rfl hM (fun EI hM=>?_) (fun EI hM=>?_)
    ·refine sr ?_;refine oa ?_;refine aP ?_;refine bQ (fun w hm=>hm.bV (α:=Word) 108 (fun _=>())) ?_;obtain rfl:=some_inj hM;refine aW (qO (fun w hm=>dO GZ hm rfl))
    refine aX (dU _ _ ?_);clear dU;refine aO ?_;refine oe iw ?_;refine om ?_;refine av rfl aH ?_;refine av rfl aH ?_;obtain⟨YK,hM⟩:=dw hM;refine av rfl (xk (hr:=fun hg=>fH (Jl YK hg))) ?_;obtain⟨c18,aks,hM⟩:=bind_some hM;refine av rfl (qp (fu aks)) ?_;obtain⟨y20,Jt,hM⟩:=bind_some hM;refine cg rfl (fun hg hs=>afR _ _ c18 y20 (fu Jt hg) (bC hs)) ?_;refine oe dI ?_;refine on ?_;refine cc rfl hM (fun hc22 hM=>?_) (fun hc22 hM=>?_)
    ·refine aO ?_;refine oe bJ ?_;refine oN hM fun hM=>?_;refine aP ?_;refine iV [ah 108 zR oQ] 15 ?_;refine aF 0 rfl aH ?_;refine aF 1 rfl aH ?_;refine aF 2 rfl aH ?_;refine aF 3 rfl aH ?_;obtain⟨x24,hx25,hM⟩:=bind_some hM;refine aF 4 rfl (bI (xs:=oQ) 3 (Kn.ah (e:=108) (r:=zR) hA) (iS hx25)) ?_;refine aF 5 rfl (aD 0) ?_;refine aF 6 rfl (dh (i:=((oQ.length:Int)-1)) (xs:=oQ) (y:=x24) 0 (Kn.ah (e:=108) (r:=zR) hA) (fun _=>hx25)) ?_;refine aF 7 rfl aH ?_;refine aF 8 rfl aH ?_;refine aF 9 rfl aH ?_;obtain⟨YM,hM⟩:=dw hM;refine aF 10 rfl (dH (hr:=fun hg=>fH YM)) ?_;obtain⟨q27,akQ,hM⟩:=bind_some hM;refine aF 11 rfl (Av (ol:=some (.i64,(bM:Int))) (oh:=some (.i64,((bM:Int)+1))) (fun _=>akQ)) ?_;obtain⟨RN,akR,hM⟩:=bind_some hM;refine aF 12 rfl (Ut (fun _=>akR)) ?_;obtain⟨x31,hx32,hM⟩:=bind_some hM;refine aF 13 rfl (bI (xs:=oQ) 3 (Kn.ah (e:=108) (r:=zR) hA) (iS hx32)) ?_;refine aF 14 rfl (aD 0) ?_;refine iU rfl (Te (r:=zR) (i:=((oQ.length:Int)-1)) (xs:=oQ) (u:=x31) (vs:=[.string RN.ba]) 0 (Word.mk RN x31.Line x31.Col) hx32 rfl (fun _ _ h=>h) uA ?_);have Jr:=LB (u:=(Word.mk RN x31.Line x31.Col)) hx32
     refine iR (hJ2 zR hM ⟨rfl,rfl,(by simp only[List.length_set,eS,sL];rfl),rfl,trivial⟩ rI)
    refine aZ ?_;refine om ?_;refine om ?_;refine om ?_;refine om ?_;refine oP hM fun hM=>?_;obtain⟨RO,akS,hM⟩:=bind_some hM;refine oe (Av (ol:=some (.i64,(bM:Int))) (oh:=some (.i64,((bM:Int)+1))) (fun _=>akS)) ?_;refine om ?_;refine om ?_;refine oP hM fun hM=>?_;refine oe (fT [.string RO.ba,vI dR,vI ((bM:Int)+1)]) ?_;refine bn (eX (α:=Word) 108 (fun _=>()) ([(Word.mk RO dR ((bM:Int)+1))]:List Word) oF (fun J8=>?_));obtain⟨Y2,hM⟩:=dw hM;refine bn (iP (r:=zR) (r2:=J8) uR (Kn.ah (e:=108) (r:=J8) hA) oF (of_decide_eq_true Y2) (fun J9=>?_));refine oa ?_;refine bf (hJ2 J9 hM sS rI)
  clear hM;rintro Mh Si hM;dsimp only[Sd] at hM ⊢;refine aZ ?_;refine om ?_;refine oP hM fun hM=>?_;refine oa ?_;refine bf (hL1 Si hM sS rI)
 refine dL (hK3 _ _ ?_);clear hK3;dsimp only[afQ] at hM;refine aG fun Ej ng=>?_;refine aO ?_;refine oe bJ ?_;refine oe iw ?_;refine on ?_;refine cc rfl hM (fun EK hM=>?_) (fun EK hM=>?_)
 ·refine sr ?_;refine oa ?_;refine aP ?_;refine bQ (fun w hm=>hm.bV (α:=Word) 108 (fun _=>())) ?_;obtain rfl:=some_inj hM;refine aW (qO (fun w hm=>dO GZ hm rfl))
 refine aX (ng _ _ ?_);clear ng;refine aO ?_;refine oa ?_;refine aP ?_;obtain rfl:=some_inj hM;refine aW (qO (fun w hm=>dO zR hm rfl))
def afw(rM:Nat)(aY:((List (List Word))×Nat×Int)→Option ((List (List Word))×Int×Int))(GX:List (List Word))(qN:Int):Unit→Option ((List (List Word))×Int×Int):=fun _=>
 bG (bW ((rM:Int)+1))<|
 aY (GX,rM+1,(qN+1))
def VU(qN:Int)(rM:Nat)(aY:((List (List Word))×Nat×Int)→Option ((List (List Word))×Int×Int)):(List (List Word))→Option ((List (List Word))×Int×Int):=fun GX=>
 bG (bW (qN+1))<|
 afw rM aY GX qN ()
def afx(jU:Str)(bM:Int)(qN:Int)(rM:Nat)(nT:List (List Word))(aY:((List (List Word))×Nat×Int)→Option ((List (List Word))×Int×Int)):Unit→Option ((List (List Word))×Int×Int):=fun _=>
 (mo jU bM qN).bind fun q9=>
 (abb q9 (rM:Int)).bind fun fA=>
 if decide (fA.2≠0) then
  (some (([]:List (List Word)),(rM:Int),fA.2))
 else
  (if decide (0<(fA.1.length:Int)) then
   (bG (decide ((nT.length+([fA.1]:List (List Word)).length)*24≤140737488355328))<|
   VU qN rM aY (nT++([fA.1]:List (List Word))))
  else
   (VU qN rM aY nT))
def afu(jU:Str)(bM:Int)(rM:Nat)(nT:List (List Word))(aY:((List (List Word))×Nat×Int)→Option ((List (List Word))×Int×Int))(gN:Int→Option ((List (List Word))×Int×Int)):Int→Option ((List (List Word))×Int×Int):=fun qN=>
 (fV (decide (qN<(jU.l.length:Int))) 0 (lX jU qN)).bind fun c5=>
 if (decide (qN<(jU.l.length:Int))&&decide (c5≠10)) then
  (bG (bW (qN+1))<|
  gN (qN+1))
 else
  (afx jU bM qN rM nT aY ())
def afv(nT:List (List Word)):Unit→Option ((List (List Word))×Int×Int):=fun _=>
 some (nT,0,0)
def afs(jU:Str)(aY:((List (List Word))×Nat×Int)→Option ((List (List Word))×Int×Int)):((List (List Word))×Nat×Int)→Option ((List (List Word))×Int×Int):=fun (nT,rM,bM)=>
 if decide (bM<(jU.l.length:Int)) then
  (iter (afu jU bM rM nT aY) FUEL bM)
 else
  (afv nT ())
def aaY(jU:Str):Option ((List (List Word))×Int×Int):=
 if decide (65536<(jU.l.length:Int)) then
  (some (([]:List (List Word)),0,7))
 else
  (iter (afs jU) FUEL (([]:List (List Word)),1,0))
theorem aoc(S:bB)(w:World)(jU:Str)(y:(List (List Word))×Int×Int)(hM:aaY jU=some y)(hS:sB S w):
   Calls Tryz.prog 70 #[.string jU.ba] w (Post (β:=(ak.R (List (List Word)))) S [] (fun g=> .tuple #[sL g y.1,vI y.2.1,vI y.2.2]) (fun g=>[ah 105 g y.1]) w):=by
 refine bP (args:=[_]) Tryz.func70 rfl ((pre_nil hS).start) rfl ?_;unfold aaY at hM;refine sr ?_;refine oa ?_;refine oa ?_;refine aP ?_;refine aG fun K2 hK2=>?_;refine aO ?_;refine oe mZ ?_;refine oe iw ?_;refine on ?_;refine cc rfl hM (fun hc1 hM=>?_) (fun hc1 hM=>?_)
 ·refine sr ?_;refine oa ?_;refine oa ?_;refine aP ?_;refine bQ (fun w hm=>hm.bV (α:=List Word) 105 (fun _=>GZ)) ?_;obtain rfl:=some_inj hM;refine aW (uY (fun w hm=>dO aap hm rfl))
 refine aX (hK2 _ _ ?_);clear hK2;refine bD ?_;refine bD ?_;refine aG fun K7 dZ=>?_;refine bD ?_;refine bF ?_;refine bQ (fun w hm=>hm.bV (α:=List Word) 105 (fun _=>GZ)) ?_;refine lp aap hM (fun (nT,rM,bM) wO=>[(0,.v (.string jU.ba)),(5,eS wO nT),(6,eI (rM:Int)),(7,eI bM)]) (fun (nT,rM,bM) wO=>[ah 105 wO nT]) sS rI ?_;clear hM;rintro aY ⟨nT,rM,bM⟩ wO hM gu hL1;dsimp only[afs] at hM ⊢;refine aG fun K9 dU=>?_;refine aO ?_;refine om ?_;refine oe mZ ?_;refine oe cO ?_;refine on ?_;refine cc rfl hM (fun hc4 hM=>?_) (fun hc4 hM=>?_)
 ·refine aX (dU _ _ ?_);clear dU;refine aG fun o7 eH=>?_;refine bF ?_;refine aO ?_;refine aP ?_;refine aG fun BA kS=>?_;refine bF ?_;refine lq hM (fun qN=>[(0,.v (.string jU.ba)),(5,eS wO nT),(6,eI (rM:Int)),(7,eI bM),(8,eI qN)]) (fun qN=>[ah 105 wO nT]) sS rI ?_;clear hM;rintro gN qN hM BD hL2;dsimp only[afu] at hM ⊢;refine aG fun Ej ng=>?_;refine aO ?_;refine om ?_;refine oe mZ ?_;refine oe cO ?_;refine om ?_;refine av rfl aH ?_;refine av rfl aH ?_;obtain⟨c5,Zb,hM⟩:=bind_some hM;refine av rfl (qp (fu Zb)) ?_;refine av rfl iy ?_;refine oe dI ?_;refine on ?_;refine cc rfl hM (fun jR hM=>?_) (fun jR hM=>?_)
  · refine aX (ng _ _ ?_);clear ng;refine bF ?_;refine aZ ?_;refine om ?_;refine oP hM fun hM=>?_;refine oa ?_;refine bf (hL2 hM sS rI)
  refine dL (kS _ _ ?_);clear kS;dsimp only[afx] at hM;refine aO ?_;refine om ?_;refine om ?_;obtain⟨q9,akO,hM⟩:=bind_some hM;refine oe (Av (ol:=some (.i64,bM)) (oh:=some (.i64,qN)) (fun _=>akO)) ?_;refine om ?_;obtain⟨fA,uX,hM⟩:=bind_some hM;refine bn (eU jw.nil (fun S w hs hP=>aoj _ w q9 (rM:Int) fA uX (bC hs)) fK (fun qW=>?_));dsimp only[cA,nA];refine om ?_;refine oe (eO (vs:=[sL qW fA.1,vI fA.2])) ?_;refine oe (eO (vs:=[sL qW fA.1,vI fA.2])) ?_;refine oa ?_;refine aP ?_;refine aG fun T9 yD=>?_;refine aO ?_;refine oe iy ?_;refine on ?_;refine cc rfl hM (fun zl hM=>?_) (fun zl hM=>?_)
  · refine aO ?_;refine om ?_;refine oa ?_;refine oa ?_;refine aP ?_;refine bQ (fun w hm=>hm.bV (α:=List Word) 105 (fun _=>GZ)) ?_;obtain rfl:=some_inj hM;refine aW (uY (fun w hm=>dO aap hm rfl))
  refine aX (yD _ _ ?_);clear yD;refine jn (SR (ak.R (List Word))) y (k:=VU qN rM aY) (fun GX Sj=>[(0,.v (.string jU.ba)),(5,eS Sj GX),(6,eI (rM:Int)),(8,eI qN)]) (fun GX Sj=>[ah 105 Sj GX]) ?_ ?_
  · intro XQ BN;refine aO ?_;refine oe bJ ?_;refine oe iw ?_;refine on ?_;refine cc rfl hM (fun hc18 hM=>?_) (fun hc18 hM=>?_)
    ·refine aZ ?_;refine om ?_;refine om ?_;refine rQ (fun w hm=>hm.freeze (r:=qW) uA) ?_;refine bn (eX (α:=List Word) 105 (fun _=>qW) ([fA.1]:List (List Word)) (jr.cons (fun S w hs=>(kI hs)) jr.nil) (fun uH=>?_));obtain⟨Y0,hM⟩:=dw hM;refine bn (iP (r:=wO) (r2:=uH) uR (Kn.ah (e:=105) (r:=uH) hA) (jr.row (e:=105) (r:=uH) hA) (of_decide_eq_true Y0) (fun zM=>?_));refine oa ?_;refine bf (BN zM hM sS rI)
    refine aX (BN wO hM sS rI)
  clear hM;rintro GX Sj hM;dsimp only[VU] at hM ⊢;refine aZ ?_;refine om ?_;refine oP hM fun hM=>?_;refine oa ?_;refine bf (eH _ _ ?_);clear eH;dsimp only[afw] at hM;refine aZ ?_;refine om ?_;refine oP hM fun hM=>?_;refine oa ?_;refine bf (hL1 Sj hM sS rI)
 refine dL (dZ _ _ ?_);clear dZ;dsimp only[afv] at hM;refine aO ?_;refine oa ?_;refine oa ?_;refine aP ?_;obtain rfl:=some_inj hM;refine aW (uY (fun w hm=>dO wO hm rfl))
def afB(gJ:Int)(Bp:Int):Unit→Option (Int×Bool):=fun _=>
 if decide (1099511627776<gJ) then
  (some (0,false))
 else
  (bG (bW (Bp*gJ))<|
  some ((Bp*gJ),true))
def afA(wQ:Str)(Bp:Int)(aY:(Int×Nat)→Option (Int×Bool)):(Int×Nat)→Option (Int×Bool):=fun (gJ,bM)=>
 if decide ((bM:Int)<(wQ.l.length:Int)) then
  ((lX wQ (bM:Int)).bind fun c5=>
  (VZ c5).bind fun y7=>
  if (!y7) then
   (some (0,false))
  else
   (bG (bW (10*gJ))<|
   (lX wQ (bM:Int)).bind fun c11=>
   bG (bW ((10*gJ)+(IntKind.i64.wrap (IntKind.u8.wrap (c11-48)))))<|
   bG (bW ((bM:Int)+1))<|
   aY (((10*gJ)+(IntKind.i64.wrap (IntKind.u8.wrap (c11-48)))),bM+1)))
 else
  (afB gJ Bp ())
def VW:(Str×Int)→Option (Int×Bool):=fun (wQ,Bp)=>
 (fV (!(decide ((wQ.l.length:Int)<1)||decide (13<(wQ.l.length:Int)))) 0 (lX wQ 0)).bind fun c1=>
 if ((decide ((wQ.l.length:Int)<1)||decide (13<(wQ.l.length:Int)))||(decide (c1=48)&&(decide (1<(wQ.l.length:Int))||decide (Bp<0)))) then
  (some (0,false))
 else
  (iter (afA wQ Bp) FUEL (0,0))
def R7(s0:Str):Option (Int×Bool):=
 (fV (decide (0<(s0.l.length:Int))) 0 (lX s0 0)).bind fun c17=>
 if (decide (0<(s0.l.length:Int))&&decide (c17=45)) then
  ((mo s0 1 (s0.l.length:Int)).bind fun q20=>
  VW (q20,(-1)))
 else
  (VW (s0,1))
theorem aa0(S:bB)(w:World)(s0:Str)(y:Int×Bool)(hM:R7 s0=some y)(hS:sB S w):
   Calls Tryz.prog 171 #[.string s0.ba] w (cu w (.tuple #[vI y.1,.bool y.2])):=by
 refine bP (args:=[_]) Tryz.func171 rfl ((pre_nil hS).start) rfl ?_;unfold R7 at hM;refine sr ?_;refine oa ?_;refine aP ?_;refine aO ?_;refine oa ?_;refine aP ?_;refine jm y (k:=VW) (fun (wQ,Bp)=>[(4,.v (.string wQ.ba)),(5,eI Bp)]) (fun (wQ,Bp)=>[]) ?_ ?_
 ·intro wX fB;refine aO ?_;refine oe mZ ?_;refine oe iw ?_;refine om ?_;refine av rfl aH ?_;obtain⟨c17,akr,hM⟩:=bind_some hM;refine av rfl (qp (fu akr)) ?_;refine av rfl eu ?_;refine oe dI ?_;refine on ?_;refine cc rfl hM (fun hc19 hM=>?_) (fun hc19 hM=>?_)
  · refine aZ ?_;refine om ?_;obtain⟨q20,akP,hM⟩:=bind_some hM;refine oe (Av (ol:=some (.i64,1)) (oh:=none) (fun _=>akP)) ?_;refine oa ?_;refine oa ?_;refine bf (fB hM sS rI)
  refine aX (fB hM sS rI)
 clear hM;rintro⟨wQ,Bp⟩ hM;dsimp only[VW] at hM ⊢;refine aG fun K3 hK3=>?_;refine aO ?_;refine oe mZ ?_;refine oe cO ?_;refine om ?_;refine av rfl aH ?_;refine av rfl mZ ?_;refine av rfl iw ?_;refine oe eT ?_;refine om ?_;refine av rfl aH ?_;obtain⟨c1,PD,hM⟩:=bind_some hM;refine av rfl (qp (fu PD)) ?_;refine av rfl eu ?_;refine av rfl aH ?_;refine av rfl aH ?_;refine av rfl mZ ?_;refine av rfl iw ?_;refine av rfl aH ?_;refine av rfl aH ?_;refine av rfl cO ?_;refine av rfl eT ?_;refine av rfl dI ?_;refine oe eT ?_;refine on ?_;refine cc rfl hM (fun hc3 hM=>?_) (fun hc3 hM=>?_)
 ·refine sr ?_;refine oa ?_;refine aP ?_;exact aW (vH hM)
 refine aX (hK3 _ _ ?_);clear hK3;refine bD ?_;refine aG fun K7 dZ=>?_;refine bD ?_;refine bF ?_;refine lq hM (fun (gJ,bM)=>[(4,.v (.string wQ.ba)),(5,eI Bp),(6,eI gJ),(7,eI (bM:Int))]) (fun (gJ,bM)=>[]) sS rI ?_;clear hM;rintro aY ⟨gJ,bM⟩ hM gu hL1;dsimp only[afA] at hM ⊢;refine aG fun K9 dU=>?_;refine aO ?_;refine om ?_;refine oe mZ ?_;refine oe cO ?_;refine on ?_;refine cc rfl hM (fun hc4 hM=>?_) (fun hc4 hM=>?_)
 ·refine aX (dU _ _ ?_);clear dU;refine aG fun o7 eH=>?_;refine bF ?_;refine aG fun CX lZ=>?_;refine aO ?_;refine om ?_;obtain⟨c5,Zb,hM⟩:=bind_some hM;refine oe (qp (fun _=>Zb)) ?_;obtain⟨y7,Ca,hM⟩:=bind_some hM;refine cv (fun hs=>afG _ _ c5 y7 Ca (bC hs)) ?_;refine oe fF ?_;refine on ?_;refine cc rfl hM (fun uV hM=>?_) (fun uV hM=>?_)
  · refine sr ?_;refine oa ?_;refine aP ?_;exact aW (vH hM)
  refine aX (lZ _ _ ?_);clear lZ;refine aZ ?_;refine om ?_;obtain⟨ajd,hM⟩:=dw hM;refine oe (sQ (hr:=fun hg=>fH ajd)) ?_;refine om ?_;refine om ?_;obtain⟨c11,Pz,hM⟩:=bind_some hM;refine oe (qp (fun _=>Pz)) ?_;refine oe Yx ?_;refine oe (ED .i64) ?_;refine oP hM fun hM=>?_;refine oa ?_;refine bf (eH _ _ ?_);clear eH;refine aZ ?_;refine om ?_;refine oP hM fun hM=>?_;refine oa ?_;refine bf (hL1 hM sS rI)
 refine dL (dZ _ _ ?_);clear dZ;dsimp only[afB] at hM;refine aG fun CY l7=>?_;refine aO ?_;refine oe iw ?_;refine on ?_;refine cc rfl hM (fun EI hM=>?_) (fun EI hM=>?_)
 ·refine sr ?_;refine oa ?_;refine aP ?_;exact aW (vH hM)
 refine aX (l7 _ _ ?_);clear l7;refine aO ?_;refine om ?_;obtain⟨ajj,hM⟩:=dw hM;refine oe (sQ (hr:=fun hg=>fH ajj)) ?_;refine oa ?_;refine aP ?_;exact aW (vH hM)
def afF:Unit→Option Int:=fun _=>
 some (-1)
def afE(l0:List Str)(s0:Str)(aY:Nat→Option Int):Nat→Option Int:=fun bM=>
 if decide ((bM:Int)<(l0.length:Int)) then
  ((idx l0 (bM:Int)).bind fun x2=>
  if decide (x2=s0) then
   (some (bM:Int))
  else
   (bG (bW ((bM:Int)+1))<|
   aY (bM+1)))
 else
  (afF ())
def Nr(l0:List Str)(s0:Str):Option Int:=
 iter (afE l0 s0) FUEL 0
theorem VX(S:bB)(w:World)(l0:List Str)(aC:ak.R (List Str))(s0:Str)(y:Int)(hM:Nr l0 s0=some y)(hS:sB S w)(fG:ak.ok S w aC l0):
   Calls Tryz.prog 172 #[sL aC l0,.string s0.ba] w (cu w (vI y)):=by
 refine bP (args:=[_,_]) Tryz.func172 rfl ((pre_nil hS).start |>.bU (α:=List Str) (r:=aC) (x:=l0) fG) rfl ?_;unfold Nr at hM;refine bD ?_;refine aG fun K2 hK2=>?_;refine bD ?_;refine bF ?_;refine lq hM (fun bM=>[(0,eS aC l0),(1,.v (.string s0.ba)),(5,eI (bM:Int))]) (fun bM=>[iL l0 aC]) sS rI ?_;clear hM;rintro aY bM hM gu hL1;dsimp only[afE] at hM ⊢;refine aG fun K4 hK4=>?_;refine aO ?_;refine om ?_;refine oe bJ ?_;refine oe cO ?_;refine on ?_;refine cc rfl hM (fun hc1 hM=>?_) (fun hc1 hM=>?_)
 ·refine aX (hK4 _ _ ?_);clear hK4;refine aG fun K6 bZ=>?_;refine bF ?_;refine aO ?_;refine om ?_;obtain⟨x2,hx3,hM⟩:=bind_some hM;refine oe (bI (xs:=l0) 1 (kG l0 aC) (iS hx3)) ?_;refine oe (dh (i:=(bM:Int)) (xs:=l0) (y:=x2) 0 (kG l0 aC) (fun _=>hx3)) ?_;refine om ?_;refine oe mF ?_;refine on ?_;refine cc rfl hM (fun hc4 hM=>?_) (fun hc4 hM=>?_)
  · refine aO ?_;refine aP ?_;exact aW (bN hM)
  refine aX (bZ _ _ ?_);clear bZ;refine aZ ?_;refine om ?_;refine oP hM fun hM=>?_;refine oa ?_;refine bf (hL1 hM sS rI)
 refine dL (hK2 _ _ ?_);clear hK2;dsimp only[afF] at hM;refine bD ?_;exact aW (bN hM)
def VY(l0:Layout)(q8:Word)(y3:Int×Bool)(y7:Int×Bool)(fA:Int×Bool):Int→Option (Int×(List Section)):=fun FD=>
 bG (decide ((l0.Sections.length+([(Section.mk q8.Text y3.1 y7.1 fA.1 FD)]:List Section).length)*48≤140737488355328))<|
 some (0,(l0.Sections++([(Section.mk q8.Text y3.1 y7.1 fA.1 FD)]:List Section)))
def aa4(l0:Layout)(p1:List Word):Option (Int×(List Section)):=
 (idx p1 2).bind fun x1=>
 (R7 x1.Text).bind fun y3=>
 (idx p1 3).bind fun x5=>
 (R7 x5.Text).bind fun y7=>
 (idx p1 4).bind fun x9=>
 (R7 x9.Text).bind fun fA=>
 (fV ((!(((!y3.2)||(!y7.2))||(!fA.2)))&&decide ((p1.length:Int)=7)) default (idx p1 5)).bind fun kN=>
 if ((((!y3.2)||(!y7.2))||(!fA.2))||(decide ((p1.length:Int)=7)&&(!decide (kN.Text=(⟨[97,116]⟩:Str))))) then
  (some (2,l0.Sections))
 else
  ((idx p1 1).bind fun q8=>
  if decide ((p1.length:Int)=7) then
   ((idx p1 6).bind fun x23=>
   (Nr l0.aM x23.Text).bind fun y25=>
   if decide (y25<0) then
    (some (3,l0.Sections))
   else
    (VY l0 q8 y3 y7 fA y25))
  else
   (VY l0 q8 y3 y7 fA (-1)))
theorem aog(S:bB)(w:World)(jI:Nat)(l0:Layout)(aC:ak.R Layout)(p1:List Word)(gy:ak.R (List Word))(y:Int×(List Section))(hM:aa4 l0 p1=some y)(hP:Pre S [own jI 26 (dP l0 aC),ah 9 aC.1 l0.aM,ah 9 aC.2.1 l0.aV,ah 81 aC.2.2.1 l0.Sections,ah 183 aC.2.2.2 l0.Links] w)(Po:ak.ok S w gy p1):
   Calls Tryz.prog 131 #[vP jI,sL gy p1] w (Post (β:=(SR (ak.R Section))) S [own jI 26 (dP l0 aC),ah 9 aC.1 l0.aM,ah 9 aC.2.1 l0.aV,ah 81 aC.2.2.1 l0.Sections,ah 183 aC.2.2.2 l0.Links] (fun g=>vI y.1) (fun g=>[own jI 26 [sL aC.1 l0.aM,sL aC.2.1 l0.aV,sL g y.2,sL aC.2.2.2 l0.Links],ah 9 aC.1 l0.aM,ah 9 aC.2.1 l0.aV,ah 81 g y.2,ah 183 aC.2.2.2 l0.Links]) w):=by
 refine bP (args:=[_,_]) Tryz.func131 rfl (hP.start |>.bU (α:=List Word) (r:=gy) (x:=p1) Po) rfl ?_;unfold aa4 at hM;refine bD ?_;refine aO ?_;obtain⟨x1,hx2,hM⟩:=bind_some hM;refine oe (bI (xs:=p1) 3 (kG p1 gy) (iS hx2)) ?_;refine oe (aD 0) ?_;refine oe (dh (i:=2) (xs:=p1) (y:=x1) 0 (kG p1 gy) (fun _=>hx2)) ?_;obtain⟨y3,hy4,hM⟩:=bind_some hM;refine cv (fun hs=>aa0 _ _ x1.Text y3 hy4 (bC hs)) ?_;refine om ?_;refine oe (eO (vs:=[vI y3.1,.bool y3.2])) ?_;refine oe (eO (vs:=[vI y3.1,.bool y3.2])) ?_;refine oa ?_;refine aP ?_;refine aO ?_;obtain⟨x5,hx6,hM⟩:=bind_some hM;refine oe (bI (xs:=p1) 3 (kG p1 gy) (iS hx6)) ?_;refine oe (aD 0) ?_;refine oe (dh (i:=3) (xs:=p1) (y:=x5) 0 (kG p1 gy) (fun _=>hx6)) ?_;obtain⟨y7,Ca,hM⟩:=bind_some hM;refine cv (fun hs=>aa0 _ _ x5.Text y7 Ca (bC hs)) ?_
 refine om ?_;refine oe (eO (vs:=[vI y7.1,.bool y7.2])) ?_;refine oe (eO (vs:=[vI y7.1,.bool y7.2])) ?_;refine oa ?_;refine aP ?_;refine aO ?_;obtain⟨x9,ni,hM⟩:=bind_some hM;refine oe (bI (xs:=p1) 3 (kG p1 gy) (iS ni)) ?_;refine oe (aD 0) ?_;refine oe (dh (i:=4) (xs:=p1) (y:=x9) 0 (kG p1 gy) (fun _=>ni)) ?_;obtain⟨fA,uX,hM⟩:=bind_some hM;refine cv (fun hs=>aa0 _ _ x9.Text fA uX (bC hs)) ?_;refine om ?_;refine oe (eO (vs:=[vI fA.1,.bool fA.2])) ?_;refine oe (eO (vs:=[vI fA.1,.bool fA.2])) ?_;refine oa ?_;refine aP ?_;refine aG fun K5 bS=>?_;refine aO ?_;refine oe fF ?_;refine om ?_;refine av rfl aH ?_;refine av rfl fF ?_;refine oe eT ?_;refine om ?_;refine av rfl aH ?_;refine av rfl fF ?_;refine oe eT ?_;refine om ?_;refine av rfl aH ?_;refine av rfl bJ ?_;refine av rfl eu ?_;refine av rfl aH ?_;refine av rfl aH ?_;obtain⟨kN,xA,hM⟩:=bind_some hM
 refine av rfl (bI (xs:=p1) 3 (kG p1 gy) (fun hg=>let h:=nu (fu xA hg);⟨h.1,h.2.1⟩)) ?_;refine av rfl (aD 0) ?_;refine av rfl (dh (i:=5) (xs:=p1) (y:=kN) 0 (kG p1 gy) (fun hg=>fu xA hg)) ?_;refine av rfl O6 ?_;refine av rfl dI ?_;refine oe eT ?_;refine on ?_;refine cc rfl hM (fun EI hM=>?_) (fun EI hM=>?_)
 ·refine bD ?_;obtain rfl:=some_inj hM;refine aW (jE (fun w hm=>dO aC.2.2.1 hm rfl))
 refine aX (bS _ _ ?_);clear bS;refine aO ?_;obtain⟨q8,Jq,hM⟩:=bind_some hM;refine oe (bI (xs:=p1) 3 (kG p1 gy) (iS Jq)) ?_;refine oe (aD 0) ?_;refine oe (dh (i:=1) (xs:=p1) (y:=q8) 0 (kG p1 gy) (fun _=>Jq)) ?_;refine om ?_;refine om ?_;refine om ?_;refine oe (fT [.string q8.Text.ba,vI y3.1,vI y7.1,vI fA.1,vI (-1)]) ?_;refine oA rfl fun b18=>?_;refine oS b18 [.string q8.Text.ba,vI y3.1,vI y7.1,vI fA.1,vI (-1)] ?_;refine on ?_;refine jm y (k:=VY l0 q8 y3 y7 fA) (fun FD=>[(0,eP jI),(11,eP b18)]) (fun FD=>[ah 9 aC.1 l0.aM,ah 9 aC.2.1 l0.aV,ah 81 aC.2.2.1 l0.Sections,ah 183 aC.2.2.2 l0.Links,own jI 26 (dP l0 aC),own b18 81 [.string q8.Text.ba,vI y3.1,vI y7.1,vI fA.1,vI FD]]) ?_ ?_
 ·intro wX fB;refine aO ?_;refine oe bJ ?_;refine oe eu ?_;refine on ?_;refine cc rfl hM (fun hc22 hM=>?_) (fun hc22 hM=>?_)
  · refine aG fun CX lZ=>?_;refine iV [own b18 81 [.string q8.Text.ba,vI y3.1,vI y7.1,vI fA.1,vI (-1)],iL p1 gy,own jI 26 (dP l0 aC),ah 9 aC.1 l0.aM,ah 9 aC.2.1 l0.aV,ah 81 aC.2.2.1 l0.Sections,ah 183 aC.2.2.2 l0.Links] 10 ?_;refine aF 0 rfl aH ?_;refine aF 1 rfl bY ?_;refine aF 2 rfl (aD 0) ?_;refine aF 3 rfl (aJ (b:=jI)) ?_;refine aF 4 rfl aH ?_;obtain⟨x23,hx24,hM⟩:=bind_some hM;refine aF 5 rfl (bI (xs:=p1) 3 (kG p1 gy) (iS hx24)) ?_;refine aF 6 rfl (aD 0) ?_;refine aF 7 rfl (dh (i:=6) (xs:=p1) (y:=x23) 0 (kG p1 gy) (fun _=>hx24)) ?_;obtain⟨y25,EP,hM⟩:=bind_some hM;refine dA 8 rfl (sV (fun hs=>VX _ _ l0.aM aC.1 x23.Text y25 EP (bC hs) (kT hs)) ⟨rI,?_⟩);refine aF 9 rfl (aD 4) ?_;refine iU rfl (fP (b:=b18) (l':=[.string q8.Text.ba,vI y3.1,vI y7.1,vI fA.1,vI y25]) (k:=?_));refine iR (lZ _ _ ?_);clear lZ;refine sr ?_;refine oe (aD 4) ?_
    refine oe (aJ (b:=b18)) ?_;refine oe cO ?_;refine on ?_;refine cc rfl hM (fun hc27 hM=>?_) (fun hc27 hM=>?_)
    ·refine bD ?_;obtain rfl:=some_inj hM;refine aW (jE (fun w hm=>dO aC.2.2.1 hm rfl))
    refine aX (fB hM sS rI)
  refine aX (fB hM sS rI)
 clear hM;rintro FD hM;dsimp only[VY] at hM ⊢;refine aG fun K9 dU=>?_;refine iV [ah 9 aC.1 l0.aM,ah 9 aC.2.1 l0.aV,ah 183 aC.2.2.2 l0.Links,own jI 26 (dP l0 aC),own b18 81 [.string q8.Text.ba,vI y3.1,vI y7.1,vI fA.1,vI FD]] 10 ?_;refine aF 0 rfl aH ?_;refine aF 1 rfl aH ?_;refine aF 2 rfl bY ?_;refine aF 3 rfl (aD 2) ?_;refine aF 4 rfl (aJ (b:=jI)) ?_;refine aF 5 rfl (bX (b:=b18)) ?_;refine dA 6 rfl (eX (α:=Section) 81 (fun _=>()) ([(Section.mk q8.Text y3.1 y7.1 fA.1 FD)]:List Section) oF (fun uH=>⟨rI,?_⟩));obtain⟨Y0,hM⟩:=dw hM;refine dA 7 rfl (iP (r:=aC.2.2.1) (r2:=uH) uR (Kn.ah (e:=81) (r:=uH) hA) oF (of_decide_eq_true Y0) (fun zM=>⟨rI,?_⟩));refine aF 8 rfl bY ?_;refine aF 9 rfl (aD 2) ?_;refine iU rfl (fP (b:=jI) (l':=[sL aC.1 l0.aM,sL aC.2.1 l0.aV,.slice zM.a ((l0.Sections++([(Section.mk q8.Text y3.1 y7.1 fA.1 FD)]:List Section)).length) zM.cap,sL aC.2.2.2 l0.Links]) (k:=?_));refine iR (dU _ _ ?_);clear dU
 refine bD ?_;obtain rfl:=some_inj hM;refine aW (jE (fun w hm=>dO zM hm rfl))
def V5(s0:Str):Option Int:=
 if decide (s0=(⟨[65]⟩:Str)) then
  (some 0)
 else
  (if decide (s0=(⟨[66]⟩:Str)) then
   (some 1)
  else
   (some (-1)))
theorem Sb(S:bB)(w:World)(s0:Str)(y:Int)(hM:V5 s0=some y)(hS:sB S w):
   Calls Tryz.prog 173 #[.string s0.ba] w (cu w (vI y)):=by
 refine bP (args:=[_]) Tryz.func173 rfl ((pre_nil hS).start) rfl ?_;unfold V5 at hM;refine bD ?_;refine aG fun K2 hK2=>?_;refine aO ?_;refine on ?_;refine bF ?_;refine sr ?_;refine oe mF ?_;refine aP ?_;refine cc rfl hM (fun hc1 hM=>?_) (fun hc1 hM=>?_)
 ·refine bD ?_;exact aW (bN hM)
 refine sr ?_;refine oe mF ?_;refine aP ?_;refine cc rfl hM (fun hc2 hM=>?_) (fun hc2 hM=>?_)
 ·refine bD ?_;exact aW (bN hM)
 refine aX (hK2 _ _ ?_);clear hK2;refine bD ?_;exact aW (bN hM)
def R8(l0:Layout)(y13:Int)(qC:Int)(qK:Int)(qD:Int):(Int×Int)→Option (Int×(List Link)):=fun (EY,EZ)=>
 bG (decide ((l0.Links.length+([(Link.mk y13 qC qK qD EY EZ)]:List Link).length)*48≤140737488355328))<|
 some (0,(l0.Links++([(Link.mk y13 qC qK qD EY EZ)]:List Link)))
def aa2(p1:List Word)(l0:Layout):(Int×Int)→Option (Int×(List Link)):=fun (qC,qD)=>
 (fV ((!(decide (qC<0)||decide (qD<0)))&&decide ((p1.length:Int)=7)) default (idx p1 6)).bind fun x1=>
 (fV ((!(decide (qC<0)||decide (qD<0)))&&(decide ((p1.length:Int)=7)&&(!decide (x1.Text=(⟨[48]⟩:Str))))) default (idx p1 6)).bind fun x3=>
 if ((decide (qC<0)||decide (qD<0))||((decide ((p1.length:Int)=7)&&(!decide (x1.Text=(⟨[48]⟩:Str))))&&(!decide (x3.Text=(⟨[49]⟩:Str))))) then
  (some (2,l0.Links))
 else
  ((V8 l0).bind fun y6=>
  (idx p1 1).bind fun x9=>
  (idx p1 3).bind fun Xz=>
  (Nr y6 x9.Text).bind fun y13=>
  (Nr y6 Xz.Text).bind fun qK=>
  if (decide (y13<0)||decide (qK<0)) then
   (some (3,l0.Links))
  else
   (if decide ((p1.length:Int)=7) then
    ((idx p1 5).bind fun Ee=>
    (Nr l0.aV Ee.Text).bind fun y24=>
    if decide (y24<0) then
     (some (3,l0.Links))
    else
     ((idx p1 6).bind fun x27=>
     if decide (x27.Text=(⟨[49]⟩:Str)) then
      (R8 l0 y13 qC qK qD (y24,1))
     else
      (R8 l0 y13 qC qK qD (y24,0))))
   else
    (R8 l0 y13 qC qK qD ((-1),0))))
def aa3(l0:Layout)(p1:List Word):Option (Int×(List Link)):=
 (idx p1 2).bind fun x30=>
 (idx p1 4).bind fun x32=>
 (V5 x30.Text).bind fun y34=>
 (V5 x32.Text).bind fun Bu=>
 aa2 p1 l0 (y34,Bu)
theorem aof(S:bB)(w:World)(jI:Nat)(l0:Layout)(aC:ak.R Layout)(p1:List Word)(gy:ak.R (List Word))(y:Int×(List Link))(hM:aa3 l0 p1=some y)(hP:Pre S [own jI 26 (dP l0 aC),ah 9 aC.1 l0.aM,ah 9 aC.2.1 l0.aV,ah 81 aC.2.2.1 l0.Sections,ah 183 aC.2.2.2 l0.Links] w)(Po:ak.ok S w gy p1):
   Calls Tryz.prog 132 #[vP jI,sL gy p1] w (Post (β:=(SR (ak.R Link))) S [own jI 26 (dP l0 aC),ah 9 aC.1 l0.aM,ah 9 aC.2.1 l0.aV,ah 81 aC.2.2.1 l0.Sections,ah 183 aC.2.2.2 l0.Links] (fun g=>vI y.1) (fun g=>[own jI 26 [sL aC.1 l0.aM,sL aC.2.1 l0.aV,sL aC.2.2.1 l0.Sections,sL g y.2],ah 9 aC.1 l0.aM,ah 9 aC.2.1 l0.aV,ah 81 aC.2.2.1 l0.Sections,ah 183 g y.2]) w):=by
 refine bP (args:=[_,_]) Tryz.func132 rfl (hP.start |>.bU (α:=List Word) (r:=gy) (x:=p1) Po) rfl ?_;unfold aa3 at hM;refine bD ?_;refine jn Nat y (k:=aa2 p1 l0) (fun (qC,qD) tZ=>[(0,eP jI),(1,eS gy p1),(5,eP tZ)]) (fun (qC,qD) tZ=>[ah 9 aC.1 l0.aM,ah 9 aC.2.1 l0.aV,ah 81 aC.2.2.1 l0.Sections,ah 183 aC.2.2.2 l0.Links,own jI 26 (dP l0 aC),iL p1 gy,own tZ 183 [vI 0,vI qC,vI 0,vI qD,vI (-1),vI 0]]) ?_ ?_
 ·intro wX fB;refine iD _ (List.Sublist.refl _) ?_;refine ay 0 rfl aH ?_;obtain⟨x30,hx31,hM⟩:=bind_some hM;refine ay 1 rfl (bI (xs:=p1) 3 (kG p1 gy) (iS hx31)) ?_;refine ay 2 rfl (aD 0) ?_;refine ay 3 rfl (dh (i:=2) (xs:=p1) (y:=x30) 0 (kG p1 gy) (fun _=>hx31)) ?_;refine ay 5 rfl aH ?_;obtain⟨x32,Jr,hM⟩:=bind_some hM;refine ay 6 rfl (bI (xs:=p1) 3 (kG p1 gy) (iS Jr)) ?_;refine ay 7 rfl (aD 0) ?_;refine ay 8 rfl (dh (i:=4) (xs:=p1) (y:=x32) 0 (kG p1 gy) (fun _=>Jr)) ?_;obtain⟨y34,Dt,hM⟩:=bind_some hM;refine lM 4 11 (⟨_,rfl,rfl,jO (fun w hm=>let ⟨S,hs⟩:=hm;Sb _ w x30.Text y34 Dt (bC hs)) ⟨rI,?_⟩⟩) (⟨_,rfl,rfl,gF rfl (k:=fun Ot=>⟨rI,?_⟩)⟩)
  · obtain⟨Bu,hy38,hM⟩:=bind_some hM;refine lM 9 11 (⟨_,rfl,rfl,jO (fun w hm=>let ⟨S,hs⟩:=hm;Sb _ w x32.Text Bu hy38 (bC hs)) ⟨rI,?_⟩⟩) (⟨_,rfl,rfl,gF rfl (k:=fun Ov=>⟨rI,?_⟩)⟩)
    ·refine ay 10 rfl (fT [vI 0,vI y34,vI 0,vI Bu,vI (-1),vI 0]) ?_;refine aA 11 rfl rfl fun Ow=>?_;refine aS 12 rfl Ow [vI 0,vI y34,vI 0,vI Bu,vI (-1),vI 0] ?_;refine dY (fB Ow hM sS rI)
    refine eD 9 rfl (sV (fun hs=>Sb _ _ x32.Text Bu hy38 (bC hs)) ⟨rI,?_⟩);refine ay 10 rfl (fT [vI 0,vI y34,vI 0,vI Bu,vI (-1),vI 0]) ?_;refine aS 12 rfl Ov [vI 0,vI y34,vI 0,vI Bu,vI (-1),vI 0] ?_;refine dY (fB Ov hM sS rI)
  refine eD 4 rfl (sV (fun hs=>Sb _ _ x30.Text y34 Dt (bC hs)) ⟨rI,?_⟩);obtain⟨y41,ala,hM⟩:=bind_some hM;refine eD 9 rfl (sV (fun hs=>Sb _ _ x32.Text y41 ala (bC hs)) ⟨rI,?_⟩);refine ay 10 rfl (fT [vI 0,vI y34,vI 0,vI y41,vI (-1),vI 0]) ?_;refine aS 12 rfl Ot [vI 0,vI y34,vI 0,vI y41,vI (-1),vI 0] ?_;refine dY (fB Ot hM sS rI)
 clear hM;rintro⟨qC,qD⟩ tZ hM;dsimp only[aa2] at hM ⊢;refine aG fun K2 hK2=>?_;refine sr ?_;refine oe (aD 1) ?_;refine oe (aJ (b:=tZ)) ?_;refine oe cO ?_;refine om ?_;refine av rfl (aD 3) ?_;refine av rfl (aJ (b:=tZ)) ?_;refine av rfl cO ?_;refine oe eT ?_;refine om ?_;refine av rfl aH ?_;refine av rfl bJ ?_;refine av rfl eu ?_;refine av rfl aH ?_;refine av rfl aH ?_;obtain⟨x1,hx2,hM⟩:=bind_some hM;refine av rfl (bI (xs:=p1) 3 (kG p1 gy) (fun hg=>let h:=nu (fu hx2 hg);⟨h.1,h.2.1⟩)) ?_;refine av rfl (aD 0) ?_;refine av rfl (dh (i:=6) (xs:=p1) (y:=x1) 0 (kG p1 gy) (fun hg=>fu hx2 hg)) ?_;refine av rfl O6 ?_;refine av rfl dI ?_;refine av rfl aH ?_;refine av rfl aH ?_;obtain⟨x3,hx4,hM⟩:=bind_some hM;refine av rfl (bI (xs:=p1) 3 (kG p1 gy) (fun hg=>let h:=nu (fu hx4 hg);⟨h.1,h.2.1⟩)) ?_;refine av rfl (aD 0) ?_;refine av rfl (dh (i:=6) (xs:=p1) (y:=x3) 0 (kG p1 gy) (fun hg=>fu hx4 hg)) ?_;refine av rfl O6 ?_;refine av rfl dI ?_;refine oe eT ?_
 refine on ?_;refine cc rfl hM (fun jA hM=>?_) (fun jA hM=>?_)
 ·refine bD ?_;obtain rfl:=some_inj hM;refine aW (jE (fun w hm=>dO aC.2.2.2 hm rfl))
 refine aX (hK2 _ _ ?_);clear hK2;refine aO ?_;refine oe bY ?_;refine oe (bX (b:=jI)) ?_;obtain⟨y6,zq,hM⟩:=bind_some hM;refine bn (eU jw.nil (fun S w hs hP=>afU _ w l0 aC y6 zq (bC hs) ⟨(kT hs),(kT hs),(kT hs),(kT hs)⟩) fK (fun r8=>?_));dsimp only[cA,nA];refine aP ?_;refine aG fun K6 bZ=>?_;refine iD [ah 9 r8 y6,ah 9 aC.1 l0.aM,ah 9 aC.2.1 l0.aV,ah 81 aC.2.2.1 l0.Sections,ah 183 aC.2.2.2 l0.Links,own jI 26 (dP l0 aC),iL p1 gy] (by repeat (first|exact List.Sublist.refl _|apply List.Sublist.cons_cons|apply List.Sublist.cons)) ?_;refine ay 0 rfl aH ?_;refine ay 1 rfl aH ?_;obtain⟨x9,ni,hM⟩:=bind_some hM;refine ay 2 rfl (bI (xs:=p1) 3 (kG p1 gy) (iS ni)) ?_;refine ay 3 rfl (aD 0) ?_;refine ay 4 rfl (dh (i:=1) (xs:=p1) (y:=x9) 0 (kG p1 gy) (fun _=>ni)) ?_;refine ay 6 rfl aH ?_;refine ay 7 rfl aH ?_;obtain⟨Xz,Zq,hM⟩:=bind_some hM;refine ay 8 rfl (bI (xs:=p1) 3 (kG p1 gy) (iS Zq)) ?_
 refine ay 9 rfl (aD 0) ?_;refine ay 10 rfl (dh (i:=3) (xs:=p1) (y:=Xz) 0 (kG p1 gy) (fun _=>Zq)) ?_;obtain⟨y13,xC,hM⟩:=bind_some hM;refine eD 5 rfl (sV (fun hs=>VX _ _ y6 r8 x9.Text y13 xC (bC hs) (kT hs)) ⟨rI,?_⟩);refine ay 12 rfl (aD 0) ?_;obtain⟨qK,Zu,hM⟩:=bind_some hM;refine eD 11 rfl (sV (fun hs=>VX _ _ y6 r8 Xz.Text qK Zu (bC hs) (kT hs)) ⟨rI,?_⟩);refine eD 13 rfl (fP (b:=tZ) (l':=[vI y13,vI qC,vI 0,vI qD,vI (-1),vI 0]) (k:=⟨rI,?_⟩));refine ay 14 rfl (aD 2) ?_;refine eD 15 rfl (fP (b:=tZ) (l':=[vI y13,vI qC,vI qK,vI qD,vI (-1),vI 0]) (k:=⟨rI,?_⟩));refine dY (bZ _ _ ?_);clear bZ;refine aG fun K7 dZ=>?_;refine sr ?_;refine oe (aD 0) ?_;refine oe (aJ (b:=tZ)) ?_;refine oe cO ?_;refine om ?_;refine av rfl (aD 2) ?_;refine av rfl (aJ (b:=tZ)) ?_;refine av rfl cO ?_;refine oe eT ?_;refine on ?_;refine cc rfl hM (fun hc17 hM=>?_) (fun hc17 hM=>?_)
 ·refine bD ?_;obtain rfl:=some_inj hM;refine aW (jE (fun w hm=>dO aC.2.2.2 hm rfl))
 refine aX (dZ _ _ ?_);clear dZ;refine jm y (k:=R8 l0 y13 qC qK qD) (fun (EY,EZ)=>[(0,eP jI),(5,eP tZ)]) (fun (EY,EZ)=>[ah 9 aC.1 l0.aM,ah 9 aC.2.1 l0.aV,ah 81 aC.2.2.1 l0.Sections,ah 183 aC.2.2.2 l0.Links,own jI 26 (dP l0 aC),own tZ 183 [vI y13,vI qC,vI qK,vI qD,vI EY,vI EZ]]) ?_ ?_
 ·intro za hJ2;refine aO ?_;refine oe bJ ?_;refine oe eu ?_;refine on ?_;refine cc rfl hM (fun hc21 hM=>?_) (fun hc21 hM=>?_)
  · refine aG fun BA kS=>?_;refine iV [ah 9 r8 y6,ah 9 aC.1 l0.aM,ah 9 aC.2.1 l0.aV,ah 81 aC.2.2.1 l0.Sections,ah 183 aC.2.2.2 l0.Links,own jI 26 (dP l0 aC),iL p1 gy,own tZ 183 [vI y13,vI qC,vI qK,vI qD,vI (-1),vI 0]] 10 ?_;refine aF 0 rfl aH ?_;refine aF 1 rfl bY ?_;refine aF 2 rfl (aD 1) ?_;refine aF 3 rfl (aJ (b:=jI)) ?_;refine aF 4 rfl aH ?_;obtain⟨Ee,PU,hM⟩:=bind_some hM;refine aF 5 rfl (bI (xs:=p1) 3 (kG p1 gy) (iS PU)) ?_;refine aF 6 rfl (aD 0) ?_;refine aF 7 rfl (dh (i:=5) (xs:=p1) (y:=Ee) 0 (kG p1 gy) (fun _=>PU)) ?_;obtain⟨y24,hy25,hM⟩:=bind_some hM;refine dA 8 rfl (sV (fun hs=>VX _ _ l0.aV aC.2.1 Ee.Text y24 hy25 (bC hs) (kT hs)) ⟨rI,?_⟩);refine aF 9 rfl (aD 4) ?_;refine iU rfl (fP (b:=tZ) (l':=[vI y13,vI qC,vI qK,vI qD,vI y24,vI 0]) (k:=?_));refine iR (kS _ _ ?_);clear kS;refine aG fun Ej ng=>?_;refine aG fun CY l7=>?_
    refine aZ ?_;refine oe (aD 4) ?_;refine oe (aJ (b:=tZ)) ?_;refine oe cO ?_;refine bf (l7 _ _ ?_);clear l7;refine cc rfl hM (fun Y7 hM=>?_) (fun Y7 hM=>?_)
    ·refine bD ?_;obtain rfl:=some_inj hM;refine aW (jE (fun w hm=>dO aC.2.2.2 hm rfl))
    refine aX (ng _ _ ?_);clear ng;refine aO ?_;obtain⟨x27,hx28,hM⟩:=bind_some hM;refine oe (bI (xs:=p1) 3 (kG p1 gy) (iS hx28)) ?_;refine oe (aD 0) ?_;refine oe (dh (i:=6) (xs:=p1) (y:=x27) 0 (kG p1 gy) (fun _=>hx28)) ?_;refine oe mF ?_;refine on ?_;refine cc rfl hM (fun hc29 hM=>?_) (fun hc29 hM=>?_)
    ·refine aZ ?_;refine oe (aD 5) ?_;refine bn (fP (b:=tZ) (l':=[vI y13,vI qC,vI qK,vI qD,vI y24,vI 1]) (k:=?_));refine bf (hJ2 hM sS rI)
    refine aX (hJ2 hM sS rI)
  refine aX (hJ2 hM sS rI)
 clear hM;rintro⟨EY,EZ⟩ hM;dsimp only[R8] at hM ⊢;refine aG fun uN gX=>?_;refine iV [ah 9 aC.1 l0.aM,ah 9 aC.2.1 l0.aV,ah 81 aC.2.2.1 l0.Sections,own jI 26 (dP l0 aC),own tZ 183 [vI y13,vI qC,vI qK,vI qD,vI EY,vI EZ]] 10 ?_;refine aF 0 rfl aH ?_;refine aF 1 rfl aH ?_;refine aF 2 rfl bY ?_;refine aF 3 rfl (aD 3) ?_;refine aF 4 rfl (aJ (b:=jI)) ?_;refine aF 5 rfl (bX (b:=tZ)) ?_;refine dA 6 rfl (eX (α:=Link) 183 (fun _=>()) ([(Link.mk y13 qC qK qD EY EZ)]:List Link) oF (fun VI=>⟨rI,?_⟩));obtain⟨YZ,hM⟩:=dw hM;refine dA 7 rfl (iP (r:=aC.2.2.2) (r2:=VI) uR (Kn.ah (e:=183) (r:=VI) hA) oF (of_decide_eq_true YZ) (fun uH=>⟨rI,?_⟩));refine aF 8 rfl bY ?_;refine aF 9 rfl (aD 3) ?_;refine iU rfl (fP (b:=jI) (l':=[sL aC.1 l0.aM,sL aC.2.1 l0.aV,sL aC.2.2.1 l0.Sections,.slice uH.a ((l0.Links++([(Link.mk y13 qC qK qD EY EZ)]:List Link)).length) uH.cap]) (k:=?_));refine iR (gX _ _ ?_);clear gX
 refine bD ?_;obtain rfl:=some_inj hM;refine aW (jE (fun w hm=>dO uH hm rfl))
def aa5(l0:Layout)(p1:List Word):Option (Int×(List Str)×(List Str)×(List Section)×(List Link)):=
 (fV (decide ((p1.length:Int)=2)) default (idx p1 0)).bind fun x1=>
 if (decide ((p1.length:Int)=2)&&decide (x1.Text=(⟨[115,116,97,116,105,111,110]⟩:Str))) then
  ((idx p1 1).bind fun x4=>
  bG (decide ((l0.aM.length+([x4.Text]:List Str).length)*16≤140737488355328))<|
  some (0,(l0.aM++([x4.Text]:List Str)),l0.aV,l0.Sections,l0.Links))
 else
  ((fV (decide ((p1.length:Int)=2)) default (idx p1 0)).bind fun x9=>
  if (decide ((p1.length:Int)=2)&&decide (x9.Text=(⟨[112,111,105,110,116]⟩:Str))) then
   ((idx p1 1).bind fun Ae=>
   bG (decide ((l0.aV.length+([Ae.Text]:List Str).length)*16≤140737488355328))<|
   some (0,l0.aM,(l0.aV++([Ae.Text]:List Str)),l0.Sections,l0.Links))
  else
   ((fV (decide ((p1.length:Int)=5)||decide ((p1.length:Int)=7)) default (idx p1 0)).bind fun ji=>
   if ((decide ((p1.length:Int)=5)||decide ((p1.length:Int)=7))&&decide (ji.Text=(⟨[115,101,99,116,105,111,110]⟩:Str))) then
    ((aa4 l0 p1).bind fun y20=>
    some (y20.1,l0.aM,l0.aV,y20.2,l0.Links))
   else
    ((fV (decide ((p1.length:Int)=5)||decide ((p1.length:Int)=7)) default (idx p1 0)).bind fun x23=>
    if ((decide ((p1.length:Int)=5)||decide ((p1.length:Int)=7))&&decide (x23.Text=(⟨[108,105,110,107]⟩:Str))) then
     ((aa3 l0 p1).bind fun qL=>
     some (qL.1,l0.aM,l0.aV,l0.Sections,qL.2))
    else
     (some (2,l0.aM,l0.aV,l0.Sections,l0.Links)))))
theorem aoh(S:bB)(w:World)(jI:Nat)(l0:Layout)(aC:ak.R Layout)(p1:List Word)(gy:ak.R (List Word))(y:Int×(List Str)×(List Str)×(List Section)×(List Link))(hM:aa5 l0 p1=some y)(hP:Pre S [own jI 26 (dP l0 aC),ah 9 aC.1 l0.aM,ah 9 aC.2.1 l0.aV,ah 81 aC.2.2.1 l0.Sections,ah 183 aC.2.2.2 l0.Links] w)(Po:ak.ok S w gy p1):
   Calls Tryz.prog 71 #[vP jI,sL gy p1] w (Post (β:=(SR (ak.R Str))×(SR (ak.R Str))×(SR (ak.R Section))×(SR (ak.R Link))) S [own jI 26 (dP l0 aC),ah 9 aC.1 l0.aM,ah 9 aC.2.1 l0.aV,ah 81 aC.2.2.1 l0.Sections,ah 183 aC.2.2.2 l0.Links] (fun g=>vI y.1) (fun g=>[own jI 26 [sL g.1 y.2.1,sL g.2.1 y.2.2.1,sL g.2.2.1 y.2.2.2.1,sL g.2.2.2 y.2.2.2.2],ah 9 g.1 y.2.1,ah 9 g.2.1 y.2.2.1,ah 81 g.2.2.1 y.2.2.2.1,ah 183 g.2.2.2 y.2.2.2.2]) w):=by
 refine bP (args:=[_,_]) Tryz.func71 rfl (hP.start |>.bU (α:=List Word) (r:=gy) (x:=p1) Po) rfl ?_;unfold aa5 at hM;refine bD ?_;refine aG fun K2 hK2=>?_;refine bF ?_;refine aO ?_;refine oe bJ ?_;refine oe eu ?_;refine om ?_;refine av rfl aH ?_;obtain⟨x1,hx2,hM⟩:=bind_some hM;refine av rfl (bI (xs:=p1) 3 (kG p1 gy) (fun hg=>let h:=nu (fu hx2 hg);⟨h.1,h.2.1⟩)) ?_;refine av rfl (aD 0) ?_;refine av rfl (dh (i:=0) (xs:=p1) (y:=x1) 0 (kG p1 gy) (fun hg=>fu hx2 hg)) ?_;refine av rfl mF ?_;refine oe dI ?_;refine aP ?_;refine cc rfl hM (fun hc3 hM=>?_) (fun hc3 hM=>?_)
 ·refine aG fun K4 hK4=>?_;refine iV [iL p1 gy,own jI 26 (dP l0 aC),ah 9 aC.2.1 l0.aV,ah 81 aC.2.2.1 l0.Sections,ah 183 aC.2.2.2 l0.Links] 13 ?_;refine aF 0 rfl aH ?_;refine aF 1 rfl aH ?_;refine aF 2 rfl bY ?_;refine aF 3 rfl (aD 0) ?_;refine aF 4 rfl (aJ (b:=jI)) ?_;refine aF 5 rfl aH ?_;obtain⟨x4,hx5,hM⟩:=bind_some hM;refine aF 6 rfl (bI (xs:=p1) 3 (kG p1 gy) (iS hx5)) ?_;refine aF 7 rfl (aD 0) ?_;refine aF 8 rfl (dh (i:=1) (xs:=p1) (y:=x4) 0 (kG p1 gy) (fun _=>hx5)) ?_;refine dA 9 rfl (eX (α:=Str) 9 (fun _=>()) ([x4.Text]:List Str) oF (fun r6=>⟨rI,?_⟩));obtain⟨Y4,hM⟩:=dw hM;refine dA 10 rfl (iP (r:=aC.1) (r2:=r6) uR (Kn.ah (e:=9) (r:=r6) hA) oF (of_decide_eq_true Y4) (fun r7=>⟨rI,?_⟩));refine aF 11 rfl bY ?_;refine aF 12 rfl (aD 0) ?_;refine iU rfl (fP (b:=jI) (l':=[.slice r7.a ((l0.aM++([x4.Text]:List Str)).length) r7.cap,sL aC.2.1 l0.aV,sL aC.2.2.1 l0.Sections,sL aC.2.2.2 l0.Links]) (k:=?_))
  refine iR (hK4 _ _ ?_);clear hK4;refine bD ?_;obtain rfl:=some_inj hM;refine aW (jE (fun w hm=>dO (r7,aC.2.1,aC.2.2.1,aC.2.2.2) hm rfl))
 refine aO ?_;refine oe bJ ?_;refine oe eu ?_;refine om ?_;refine av rfl aH ?_;obtain⟨x9,ni,hM⟩:=bind_some hM;refine av rfl (bI (xs:=p1) 3 (kG p1 gy) (fun hg=>let h:=nu (fu ni hg);⟨h.1,h.2.1⟩)) ?_;refine av rfl (aD 0) ?_;refine av rfl (dh (i:=0) (xs:=p1) (y:=x9) 0 (kG p1 gy) (fun hg=>fu ni hg)) ?_;refine av rfl mF ?_;refine oe dI ?_;refine aP ?_;refine cc rfl hM (fun BR hM=>?_) (fun BR hM=>?_)
 ·refine aG fun K7 dZ=>?_;refine iV [iL p1 gy,own jI 26 (dP l0 aC),ah 9 aC.1 l0.aM,ah 81 aC.2.2.1 l0.Sections,ah 183 aC.2.2.2 l0.Links] 13 ?_;refine aF 0 rfl aH ?_;refine aF 1 rfl aH ?_;refine aF 2 rfl bY ?_;refine aF 3 rfl (aD 1) ?_;refine aF 4 rfl (aJ (b:=jI)) ?_;refine aF 5 rfl aH ?_;obtain⟨Ae,PS,hM⟩:=bind_some hM;refine aF 6 rfl (bI (xs:=p1) 3 (kG p1 gy) (iS PS)) ?_;refine aF 7 rfl (aD 0) ?_;refine aF 8 rfl (dh (i:=1) (xs:=p1) (y:=Ae) 0 (kG p1 gy) (fun _=>PS)) ?_;refine dA 9 rfl (eX (α:=Str) 9 (fun _=>()) ([Ae.Text]:List Str) oF (fun Ng=>⟨rI,?_⟩));obtain⟨ajN,hM⟩:=dw hM;refine dA 10 rfl (iP (r:=aC.2.1) (r2:=Ng) uR (Kn.ah (e:=9) (r:=Ng) hA) oF (of_decide_eq_true ajN) (fun nD=>⟨rI,?_⟩));refine aF 11 rfl bY ?_;refine aF 12 rfl (aD 1) ?_;refine iU rfl (fP (b:=jI) (l':=[sL aC.1 l0.aM,.slice nD.a ((l0.aV++([Ae.Text]:List Str)).length) nD.cap,sL aC.2.2.1 l0.Sections,sL aC.2.2.2 l0.Links]) (k:=?_))
  refine iR (dZ _ _ ?_);clear dZ;refine bD ?_;obtain rfl:=some_inj hM;refine aW (jE (fun w hm=>dO (aC.1,nD,aC.2.2.1,aC.2.2.2) hm rfl))
 refine aO ?_;refine oe bJ ?_;refine oe eu ?_;refine om ?_;refine av rfl aH ?_;refine av rfl bJ ?_;refine av rfl eu ?_;refine oe eT ?_;refine om ?_;refine av rfl aH ?_;obtain⟨ji,vY,hM⟩:=bind_some hM;refine av rfl (bI (xs:=p1) 3 (kG p1 gy) (fun hg=>let h:=nu (fu vY hg);⟨h.1,h.2.1⟩)) ?_;refine av rfl (aD 0) ?_;refine av rfl (dh (i:=0) (xs:=p1) (y:=ji) 0 (kG p1 gy) (fun hg=>fu vY hg)) ?_;refine av rfl mF ?_;refine oe dI ?_;refine aP ?_;refine cc rfl hM (fun hc19 hM=>?_) (fun hc19 hM=>?_)
 ·refine aO ?_;refine om ?_;obtain⟨y20,Jt,hM⟩:=bind_some hM;refine bn (eU sA (fun S w hs hP=>aog _ w jI l0 aC p1 gy y20 Jt hP (kM hs)) fK (fun xQ=>?_));dsimp only[cA,nA];refine aP ?_;obtain rfl:=some_inj hM;refine aW (jE (fun w hm=>dO (aC.1,aC.2.1,xQ,aC.2.2.2) hm rfl))
 refine aO ?_;refine oe bJ ?_;refine oe eu ?_;refine om ?_;refine av rfl aH ?_;refine av rfl bJ ?_;refine av rfl eu ?_;refine oe eT ?_;refine om ?_;refine av rfl aH ?_;obtain⟨x23,hx24,hM⟩:=bind_some hM;refine av rfl (bI (xs:=p1) 3 (kG p1 gy) (fun hg=>let h:=nu (fu hx24 hg);⟨h.1,h.2.1⟩)) ?_;refine av rfl (aD 0) ?_;refine av rfl (dh (i:=0) (xs:=p1) (y:=x23) 0 (kG p1 gy) (fun hg=>fu hx24 hg)) ?_;refine av rfl mF ?_;refine oe dI ?_;refine aP ?_;refine cc rfl hM (fun hc25 hM=>?_) (fun hc25 hM=>?_)
 ·refine aO ?_;refine om ?_;obtain⟨qL,hy27,hM⟩:=bind_some hM;refine bn (eU sA (fun S w hs hP=>aof _ w jI l0 aC p1 gy qL hy27 hP (kM hs)) fK (fun Nh=>?_));dsimp only[cA,nA];refine aP ?_;obtain rfl:=some_inj hM;refine aW (jE (fun w hm=>dO (aC.1,aC.2.1,aC.2.2.1,Nh) hm rfl))
 refine aX (hK2 _ _ ?_);clear hK2;refine bD ?_;obtain rfl:=some_inj hM;refine aW (jE (fun w hm=>dO (aC.1,aC.2.1,aC.2.2.1,aC.2.2.2) hm rfl))
end Go.Proofs.YtcalibhfgdncaaaGreatDoor

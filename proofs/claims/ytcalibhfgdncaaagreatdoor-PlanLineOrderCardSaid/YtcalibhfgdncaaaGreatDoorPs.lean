/- Functions: models, proved of the code. -/
import Derived.Test.YtcalibhfgdncaaaGreatDoorPq
import Derived.Test.YtcalibhfgdncaaaGreatDoorPr
import Derived.Test.YtcalibhfgdncaaaGreatDoorWa
namespace Go.Proofs.YtcalibhfgdncaaaGreatDoor
open Go.Dc Go.RowKit
attribute [local irreducible] CW OW AW AZ Ev
set_option maxHeartbeats 0
set_option maxRecDepth 10000
set_option linter.all false
def aeA(p0:Plan):Unit→Option Int:=fun _=>
 if (decide (p0.bJ<2)||decide (7200<p0.bJ)) then
  (some 4)
 else
  (some 0)
def UH(p0:Plan)(aK:Nat→Option Int):Nat→Option Int:=fun Hl=>
 if decide ((Hl:Int)<(p0.Lines.length:Int)) then
  ((idx p0.Lines (Hl:Int)).bind fun x9=>
  if decide (12<(x9.bD.length:Int)) then
   (some 7)
  else
   (aK (Hl+1)))
 else
  (aeA p0 ())
def Ef(p0:Plan):Bool→Option Int:=fun WU=>
 if WU then
  (some 7)
 else
  (iter (UH p0) FUEL 0)
def O9(l0:Layout)(p0:Plan):Option Int:=
 (Oy l0).bind fun y3=>
 if decide (y3≠0) then
  (some 1)
 else
  (if decide (8<(p0.aP.length:Int)) then
   (Ef p0 (decide (8<(p0.aP.length:Int))))
  else
   (if decide (48<(p0.Routes.length:Int)) then
    (Ef p0 (decide (48<(p0.Routes.length:Int))))
   else
    (if decide (16<(p0.Lines.length:Int)) then
     (Ef p0 (decide (16<(p0.Lines.length:Int))))
    else
     (if decide (32<(p0.Changes.length:Int)) then
      (Ef p0 (decide (32<(p0.Changes.length:Int))))
     else
      (if decide (32<(p0.Turns.length:Int)) then
       (Ef p0 (decide (32<(p0.Turns.length:Int))))
      else
       (if decide (32<(p0.bB.length:Int)) then
        (Ef p0 (decide (32<(p0.bB.length:Int))))
       else
        (Ef p0 (decide (32<(p0.bA.length:Int))))))))))
theorem atU(S:aW)(w:World)(l0:Layout)(aD:ah.R Layout)(p0:Plan)(av:ah.R Plan)(y:Int)(hM:O9 l0 p0=some y)(hS:sB S w)(dQ:ah.ok S w aD l0)(eF:ah.ok S w av p0):
   Calls Tryz.prog 32 #[.agg (jy l0 aD),.agg (jI p0 av)] w (bM w (vI y)):=by
 refine bF (args:=[_,_]) Tryz.func32 rfl ((pre_nil hS).start |>.je dQ|>.jZ eF) rfl ?_;unfold O9 at hM;refine sr ?_;refine oB (iR l0 aD) fun b1=>?_;refine oB (kX p0 av) fun b2=>?_;refine aN ?_;refine au fun K2 hK2=>?_;refine go ?_;obtain⟨y3,hy4,hM⟩:=bind_some hM;refine cv (fun hs=>ad8 _ _ l0 aD y3 hy4 (aM hs) ⟨(kM hs),(kM hs),(kM hs),(kM hs)⟩) ?_;refine oe nQ ?_;refine aN ?_;refine co hM (fun iH hM=>?_) (fun iH hM=>?_)
 ·refine aJ ?_;exact aF (aZ hM)
 refine jl y (k:=Ef p0) [3] (fun WU=>[(11,.v (.bool WU))]) [1,7,0,0,0] (fun WU=>[]) ?_ ?_
 ·intro rM dK;refine go ?_;refine co hM (fun yM hM=>?_) (fun yM hM=>?_)
  · refine gG (dK hM sS rI)
  refine go ?_;refine co hM (fun rZ hM=>?_) (fun rZ hM=>?_)
  · refine gG (dK hM sS rI)
  refine go ?_;refine co hM (fun hc16 hM=>?_) (fun hc16 hM=>?_)
  · refine gG (dK hM sS rI)
  refine go ?_;refine co hM (fun hc17 hM=>?_) (fun hc17 hM=>?_)
  · refine gG (dK hM sS rI)
  refine go ?_;refine co hM (fun hc18 hM=>?_) (fun hc18 hM=>?_)
  · refine gG (dK hM sS rI)
  refine go ?_;refine co hM (fun hc19 hM=>?_) (fun hc19 hM=>?_)
  · refine gG (dK hM sS rI)
  refine bg ?_;refine go ?_;refine bq (dK hM sS rI)
 clear hM;rintro WU hM;dsimp only[Ef,cA,nA] at hM ⊢;refine co hM (fun hc6 hM=>?_) (fun hc6 hM=>?_)
 ·refine aJ ?_;exact aF (aZ hM)
 refine cs hK2 ?_;refine au fun K6 dG=>?_;refine sr ?_;refine fo 3 ?_;refine kK (fun w hm=>Kn.len (kG p0.Lines av.2.2.1) hm) fun hl7=>?_;refine go ?_;refine lk hM [3,41,42] (fun Hl=>[(43,eI (Hl:Int))]) [] (fun Hl=>[]) ?_;clear hM;rintro aK Hl hM eO hL1;dsimp only[UH,cA,nA] at hM ⊢;refine sr ?_;refine oe gq ?_;refine on ?_;refine au fun K9 fH=>?_;refine co hM (fun hc8 hM=>?_) (fun hc8 hM=>?_)
 ·have axp:=of_decide_eq_true hc8;refine cs fH ?_;refine au fun tC jC=>?_;refine bI ?_;refine sr ?_;refine ixs 4 4 (fun x9=>(mH x9 (av.2.2.1.es (Hl:Int).toNat))) (kG p0.Lines av.2.2.1) hM fun x9 sj hM=>?_;refine oA rfl fun b11=>?_;refine oS b11 (mH x9 (av.2.2.1.es (Hl:Int).toNat)) ?_;refine go ?_;refine co hM (fun mP hM=>?_) (fun mP hM=>?_)
  · refine aJ ?_;exact aF (aZ hM)
  refine cs jC ?_;refine bg ?_;refine oe (dP (hr:=fun _=>by unfold gN;omega)) ?_;refine om ?_;refine bq (hL1 hM sS rI)
 refine cx dG ?_;dsimp only[aeA] at hM;refine au fun yu mX=>?_;refine go ?_;refine co hM (fun zM hM=>?_) (fun zM hM=>?_)
 ·refine aJ ?_;exact aF (aZ hM)
 refine cs mX ?_;refine aJ ?_;exact aF (aZ hM)
def aiS:Unit→Option Int:=fun _=>
 some 0
def Zq(p0:Plan)(aK:Nat→Option Int):Nat→Option Int:=fun qj=>
 if decide ((qj:Int)<(p0.aP.length:Int)) then
  ((idx p0.aP (qj:Int)).bind fun x5=>
  (QW x5.Name).bind fun y8=>
  if (!y8) then
   (some 3)
  else
   ((sub p0.aP 0 (qj:Int)).bind fun LW=>
   (WI LW x5).bind fun eZ=>
   if eZ then
    (some 5)
   else
    ((RU x5).bind fun mD=>
    if (!mD) then
     (some 4)
    else
     (aK (qj+1)))))
 else
  (aiS ())
def Pb(l0:Layout)(p0:Plan):Option Int:=
 iter (Zq p0) FUEL 0
theorem atW(S:aW)(w:World)(l0:Layout)(aD:ah.R Layout)(p0:Plan)(av:ah.R Plan)(y:Int)(hM:Pb l0 p0=some y)(hS:sB S w)(dQ:ah.ok S w aD l0)(eF:ah.ok S w av p0):
   Calls Tryz.prog 33 #[.agg (jy l0 aD),.agg (jI p0 av)] w (bM w (vI y)):=by
 refine bF (args:=[_,_]) Tryz.func33 rfl ((pre_nil hS).start |>.je dQ|>.jZ eF) rfl ?_;unfold Pb at hM;refine sr ?_;refine oB (iR l0 aD) fun b1=>?_;refine oB (kX p0 av) fun b2=>?_;refine aN ?_;refine au fun K2 hK2=>?_;refine sr ?_;refine fo 1 ?_;refine kK (fun w hm=>Kn.len (kG p0.aP av.1) hm) fun hl3=>?_;refine go ?_;refine lk hM [3,8,9] (fun qj=>[(10,eI (qj:Int))]) [1,7,0,0,0] (fun qj=>[]) ?_;clear hM;rintro aK qj hM eO hL1;dsimp only[Zq,cA,nA] at hM ⊢;refine sr ?_;refine oe gq ?_;refine on ?_;refine au fun K5 dx=>?_;refine co hM (fun hc4 hM=>?_) (fun hc4 hM=>?_)
 ·have IU:=of_decide_eq_true hc4;refine cs dx ?_;refine au fun K6 dG=>?_;refine bI ?_;refine aR ?_;refine ixs 5 5 (fun x5=>(rD x5)) (kG p0.aP av.1) hM fun x5 hx6 hM=>?_;refine oA rfl fun b7=>?_;refine oa ?_;refine oS b7 (rD x5) ?_;refine go ?_;obtain⟨y8,nT,hM⟩:=bind_some hM;refine cv (fun hs=>alv _ _ x5.Name y8 nT (aM hs)) ?_;refine oe iC ?_;refine aN ?_;refine co hM (fun tH hM=>?_) (fun tH hM=>?_)
  · refine aJ ?_;exact aF (aZ hM)
  refine sr ?_;refine fo 1 ?_;refine om ?_;obtain⟨LW,hl12,hM⟩:=bind_some hM;refine bf (J3 (r:=av.1) (xs:=p0.aP) (ol:=none) (oh:=some (.i64,(qj:Int))) (Sk.dw (α:=List aQ) (r:=av.1) (x:=p0.aP) hA) hl12 (fun wU=>?_));refine oe KT ?_;obtain⟨eZ,uz,hM⟩:=bind_some hM;refine cv (fun hs=>awg _ _ LW wU b7 x5 eZ uz (aM hs) (kM hs) (lQ hA hs)) ?_;refine aN ?_;refine co hM (fun hc16 hM=>?_) (fun hc16 hM=>?_)
  · refine aJ ?_;exact aF (aZ hM)
  refine sr ?_;refine oe fC ?_;obtain⟨mD,DR,hM⟩:=bind_some hM;refine cv (fun hs=>ag1 _ _ x5 mD DR (aM hs)) ?_;refine oe iC ?_;refine aN ?_;refine co hM (fun hc19 hM=>?_) (fun hc19 hM=>?_)
  · refine aJ ?_;exact aF (aZ hM)
  refine cs dG ?_;refine bg ?_;refine oe (dP (hr:=fun _=>by unfold gN;omega)) ?_;refine om ?_;refine bq (hL1 hM sS rI)
 refine cx hK2 ?_;dsimp only[aiS] at hM;refine aJ ?_;exact aF (aZ hM)
def aiR:Unit→Option Int:=fun _=>
 some 0
def Zp(p0:Plan)(l0:Layout)(aK:Nat→Option Int):Nat→Option Int:=fun vO=>
 if decide ((vO:Int)<(p0.Routes.length:Int)) then
  ((idx p0.Routes (vO:Int)).bind fun x5=>
  (QC l0 x5).bind fun y8=>
  if decide (y8≠0) then
   (some y8)
  else
   (aK (vO+1)))
 else
  (aiR ())
def O8(l0:Layout)(p0:Plan):Option Int:=
 iter (Zp p0 l0) FUEL 0
theorem atT(S:aW)(w:World)(l0:Layout)(aD:ah.R Layout)(p0:Plan)(av:ah.R Plan)(y:Int)(hM:O8 l0 p0=some y)(hS:sB S w)(dQ:ah.ok S w aD l0)(eF:ah.ok S w av p0):
   Calls Tryz.prog 34 #[.agg (jy l0 aD),.agg (jI p0 av)] w (bM w (vI y)):=by
 refine bF (args:=[_,_]) Tryz.func34 rfl ((pre_nil hS).start |>.je dQ|>.jZ eF) rfl ?_;unfold O8 at hM;refine sr ?_;refine oB (iR l0 aD) fun b1=>?_;refine oB (kX p0 av) fun b2=>?_;refine aN ?_;refine au fun K2 hK2=>?_;refine sr ?_;refine fo 2 ?_;refine kK (fun w hm=>Kn.len (kG p0.Routes av.2.1) hm) fun hl3=>?_;refine go ?_;refine lk hM [2,9,10] (fun vO=>[(11,eI (vO:Int))]) [0,1,0,0,0,0,1] (fun vO=>[]) ?_;clear hM;rintro aK vO hM eO hL1;dsimp only[Zp,cA,nA] at hM ⊢;refine sr ?_;refine oe gq ?_;refine on ?_;refine au fun K5 dx=>?_;refine co hM (fun hc4 hM=>?_) (fun hc4 hM=>?_)
 ·have IU:=of_decide_eq_true hc4;refine cs dx ?_;refine au fun K6 dG=>?_;refine bI ?_;refine sr ?_;refine ixs 2 2 (fun x5=>(nV x5 (av.2.1.es (vO:Int).toNat))) (kG p0.Routes av.2.1) hM fun x5 hx6 hM=>?_;refine oA rfl fun b7=>?_;refine oS b7 (nV x5 (av.2.1.es (vO:Int).toNat)) ?_;refine go ?_;obtain⟨y8,nT,hM⟩:=bind_some hM;refine cv (fun hs=>akg _ _ l0 aD x5 (av.2.1.es (vO:Int).toNat) y8 nT (aM hs) ⟨(kM hs),(kM hs),(kM hs),(kM hs)⟩ (Kn.lend ((Sk.elem (Sk.dw (α:=List aG) (r:=av.2.1) (x:=p0.Routes) hA) hx6)).kn hs)) ?_;refine go ?_;refine co hM (fun tH hM=>?_) (fun tH hM=>?_)
  · refine aR ?_;refine aN ?_;exact aF (aZ hM)
  refine cs dG ?_;refine bg ?_;refine oe (dP (hr:=fun _=>by unfold gN;omega)) ?_;refine om ?_;refine bq (hL1 hM sS rI)
 refine cx hK2 ?_;dsimp only[aiR] at hM;refine aJ ?_;exact aF (aZ hM)
def Ee(p0:Plan)(x4:bW)(eD:Line)(l0:Layout)(k0:Int):Bool→Option Int:=fun WV=>
 if WV then
  (some 4)
 else
  ((idx p0.Routes x4.aG).bind fun x8=>
  (idx p0.aP eD.aQ).bind fun x10=>
  (RA l0 x8 x10).bind fun fB=>
  if decide (fB≠0) then
   (some fB)
  else
   (aO (!(decide (0<k0))||aX (k0-1))<|
   (dH (decide (0<k0)) default (idx eD.bD (k0-1))).bind fun xk=>
   (dH (decide (0<k0)) default (Ms p0 x4)).bind fun jc=>
   (dH (decide (0<k0)) default (Mt p0 xk)).bind fun y20=>
   if (decide (0<k0)&&decide (jc≠y20)) then
    (some 11)
   else
    (some 0)))
def O7(l0:Layout)(p0:Plan)(eD:Line)(k0:Int):Option Int:=
 (idx eD.bD k0).bind fun x4=>
 if decide (x4.aG<0) then
  (Ee p0 x4 eD l0 k0 (decide (x4.aG<0)))
 else
  (if decide ((p0.Routes.length:Int)≤x4.aG) then
   (Ee p0 x4 eD l0 k0 (decide ((p0.Routes.length:Int)≤x4.aG)))
  else
   (if decide (x4.Extra<0) then
    (Ee p0 x4 eD l0 k0 (decide (x4.Extra<0)))
   else
    (if decide (p0.bJ≤x4.Extra) then
     (Ee p0 x4 eD l0 k0 (decide (p0.bJ≤x4.Extra)))
    else
     ((Mj p0 x4.Min x4.Max).bind fun y27=>
     if (!y27) then
      (Ee p0 x4 eD l0 k0 (!y27))
     else
      (aO (aX ((eD.bD.length:Int)-1))<|
      Ee p0 x4 eD l0 k0 (decide (k0=((eD.bD.length:Int)-1))&&(decide (x4.Min≠0)||decide (x4.Max≠0))))))))
theorem atS(S:aW)(w:World)(l0:Layout)(aD:ah.R Layout)(p0:Plan)(av:ah.R Plan)(eD:Line)(qO:ah.R Line)(k0:Int)(y:Int)(hM:O7 l0 p0 eD k0=some y)(hS:sB S w)(dQ:ah.ok S w aD l0)(eF:ah.ok S w av p0)(acH:ah.ok S w qO eD):
   Calls Tryz.prog 86 #[.agg (jy l0 aD),.agg (jI p0 av),.agg (KF eD qO),vI k0] w (bM w (vI y)):=by
 refine bF (args:=[_,_,_,_]) Tryz.func86 rfl ((pre_nil hS).start |>.je dQ|>.jZ eF|>.bG acH) rfl ?_;unfold O7 at hM;refine sr ?_;refine oB (iR l0 aD) fun b1=>?_;refine oB (kX p0 av) fun b2=>?_;refine oB (mH eD qO) fun b3=>?_;refine go ?_;refine ixs 4 4 (fun x4=>(zY x4)) (kG eD.bD qO) hM fun x4 hx5 hM=>?_;refine oA rfl fun b6=>?_;refine oS b6 (zY x4) ?_;refine on ?_;refine au fun K3 hK3=>?_;refine bI ?_;refine jl y (k:=Ee p0 x4 eD l0 k0) [3,4,5,6,9] (fun WV=>[(16,.v (.bool WV))]) [] (fun WV=>[]) ?_ ?_
 ·intro rM dK;refine go ?_;refine co hM (fun Ld hM=>?_) (fun Ld hM=>?_)
  · refine gG (dK hM sS rI)
  refine go ?_;refine co hM (fun hc24 hM=>?_) (fun hc24 hM=>?_)
  · refine gG (dK hM sS rI)
  refine go ?_;refine co hM (fun hc25 hM=>?_) (fun hc25 hM=>?_)
  · refine gG (dK hM sS rI)
  refine go ?_;refine co hM (fun NZ hM=>?_) (fun NZ hM=>?_)
  · refine gG (dK hM sS rI)
  refine go ?_;obtain⟨y27,hy28,hM⟩:=bind_some hM;refine cv (fun hs=>aey _ _ p0 av x4.Min x4.Max y27 hy28 (aM hs) ⟨(kM hs),(kM hs),(kM hs),(kM hs),(kM hs),(kM hs),(kM hs)⟩) ?_;refine oe iC ?_;refine aN ?_;refine co hM (fun hc29 hM=>?_) (fun hc29 hM=>?_)
  · refine gG (dK hM sS rI)
  refine bg ?_;refine go ?_;refine oN hM fun hM=>?_;refine go ?_;refine bq (dK hM sS rI)
 clear hM;rintro WV hM;dsimp only[Ee,cA,nA] at hM ⊢;refine co hM (fun jr hM=>?_) (fun jr hM=>?_)
 ·refine aJ ?_;exact aF (aZ hM)
 refine cs hK3 ?_;refine au fun K5 dx=>?_;refine au fun K6 dG=>?_;refine dS _ (List.Sublist.refl _) ?_;refine ay 0 rfl fC ?_;refine fa 1 2 ?_;refine fa 3 0 ?_;refine kH 5 2 2 (fun x8=>(nV x8 (av.2.1.es x4.aG.toNat))) (kG p0.Routes av.2.1) hM fun x8 Ta hM=>?_;refine fa 7 1 ?_;refine fa 9 1 ?_;refine kH 11 5 5 (fun x10=>(rD x10)) (kG p0.aP av.1) hM fun x10 AQ hM=>?_;obtain⟨fB,DN,hM⟩:=bind_some hM;refine bT 13 rfl (sV (fun hs=>amx _ _ l0 aD x8 (av.2.1.es x4.aG.toNat) x10 fB DN (aM hs) ⟨(kM hs),(kM hs),(kM hs),(kM hs)⟩ (Kn.lend ((Sk.elem (Sk.dw (α:=List aG) (r:=av.2.1) (x:=p0.Routes) hA) Ta)).kn hs)) ⟨rI,?_⟩);refine ay 14 rfl eX ?_;refine bS (dG _ _ ?_);refine aR ?_;refine oe nQ ?_;refine oc hM (fun yM hM=>?_) (fun yM hM=>?_)
 ·refine aR ?_;refine aN ?_;exact aF (aZ hM)
 refine cs dx ?_;refine au fun K9 fH=>?_;refine au fun tC jC=>?_;refine dS _ (List.Sublist.refl _) ?_;refine am 0 ?_;refine ay 1 rfl vY ?_;refine am 2 ?_;refine dX 3 rfl rfl fC ?_;refine dX 4 rfl rfl fC ?_;refine dX 6 rfl rfl fC ?_;refine dX 7 rfl rfl (aY 3) ?_;refine dX 8 rfl rfl gZ ?_;refine dX 9 rfl rfl dJ ?_;obtain⟨acs,hM⟩:=bQ hM;refine dX 10 rfl rfl (pW (hr:=fun hg=>dU (yJ acs hg))) ?_;obtain⟨xk,S9,hM⟩:=bind_some hM;refine dX 11 rfl rfl (dL 4 (kG eD.bD qO) (fun hg=>let h:=jX (cu S9 hg);⟨h.1,h.2.1⟩)) ?_;refine dX 12 rfl rfl (Ce (m:=4) (i:=(k0-1)) (xs:=eD.bD) (y:=xk) (l:=(zY xk)) 0 (kG eD.bD qO) (fun hg=>cu S9 hg)) ?_;obtain⟨jc,xL,hM⟩:=bind_some hM;refine XD 5 rfl rfl (fun hg w hm=>let ⟨S,hs⟩:=hm;aeG _ w p0 av x4 jc (cu xL hg) (aM hs) ⟨(kM hs),(kM hs),(kM hs),(kM hs),(kM hs),(kM hs),(kM hs)⟩) ?_;obtain⟨y20,yO,hM⟩:=bind_some hM;refine XD 13 rfl rfl (fun hg w hm=>let ⟨S,hs⟩:=hm;aeH _ w p0 av xk y20 (cu yO hg) (aM hs) ⟨(kM hs),(kM hs),(kM hs),(kM hs),(kM hs),(kM hs),(kM hs)⟩) ?_;refine dX 14 rfl rfl nQ ?_;refine ay 15 rfl rR ?_;refine bS (jC _ _ ?_);refine co hM (fun hc22 hM=>?_) (fun hc22 hM=>?_)
 ·refine aJ ?_;exact aF (aZ hM)
 refine cs fH ?_;refine aJ ?_;exact aF (aZ hM)
def aiQ(aK:Nat→Option Int)(jH:Nat):Unit→Option Int:=fun _=>
 aK (jH+1)
def UG(x5:Line)(l0:Layout)(p0:Plan)(aK:Nat→Option Int)(jH:Nat)(eU:Nat→Option Int):Nat→Option Int:=fun J8=>
 if decide ((J8:Int)<(x5.bD.length:Int)) then
  ((O7 l0 p0 x5 (J8:Int)).bind fun y21=>
  if decide (y21≠0) then
   (some y21)
  else
   (eU (J8+1)))
 else
  (aiQ aK jH ())
def Mk(x5:Line)(l0:Layout)(p0:Plan)(aK:Nat→Option Int)(jH:Nat):Bool→Option Int:=fun WY=>
 if WY then
  (some 4)
 else
  (if decide ((x5.bD.length:Int)=0) then
   (some 1)
  else
   (iter (UG x5 l0 p0 aK jH) FUEL 0))
def aiP:Unit→Option Int:=fun _=>
 some 0
def Zo(p0:Plan)(l0:Layout)(aK:Nat→Option Int):Nat→Option Int:=fun jH=>
 if decide ((jH:Int)<(p0.Lines.length:Int)) then
  ((idx p0.Lines (jH:Int)).bind fun x5=>
  (QW x5.Name).bind fun y8=>
  if (!y8) then
   (some 3)
  else
   ((sub p0.Lines 0 (jH:Int)).bind fun LW=>
   (WH LW x5).bind fun eZ=>
   if eZ then
    (some 5)
   else
    (if decide (x5.aQ<0) then
     (Mk x5 l0 p0 aK jH (decide (x5.aQ<0)))
    else
     (if decide ((p0.aP.length:Int)≤x5.aQ) then
      (Mk x5 l0 p0 aK jH (decide ((p0.aP.length:Int)≤x5.aQ)))
     else
      ((UU x5.Weight).bind fun mW=>
      Mk x5 l0 p0 aK jH (!mW))))))
 else
  (aiP ())
def O6(l0:Layout)(p0:Plan):Option Int:=
 iter (Zo p0 l0) FUEL 0
theorem atQ(S:aW)(w:World)(l0:Layout)(aD:ah.R Layout)(p0:Plan)(av:ah.R Plan)(y:Int)(hM:O6 l0 p0=some y)(hS:sB S w)(dQ:ah.ok S w aD l0)(eF:ah.ok S w av p0):
   Calls Tryz.prog 35 #[.agg (jy l0 aD),.agg (jI p0 av)] w (bM w (vI y)):=by
 refine bF (args:=[_,_]) Tryz.func35 rfl ((pre_nil hS).start |>.je dQ|>.jZ eF) rfl ?_;unfold O6 at hM;refine sr ?_;refine oB (iR l0 aD) fun b1=>?_;refine oB (kX p0 av) fun b2=>?_;refine aN ?_;refine au fun K2 hK2=>?_;refine sr ?_;refine fo 3 ?_;refine kK (fun w hm=>Kn.len (kG p0.Lines av.2.2.1) hm) fun hl3=>?_;refine go ?_;refine lk hM [2,3,10,11] (fun jH=>[(12,eI (jH:Int))]) [] (fun jH=>[]) ?_;clear hM;rintro aK jH hM eO hL1;dsimp only[Zo,cA,nA] at hM ⊢;refine sr ?_;refine oe gq ?_;refine on ?_;refine au fun K5 dx=>?_;refine co hM (fun hc4 hM=>?_) (fun hc4 hM=>?_)
 ·have IU:=of_decide_eq_true hc4;refine cs dx ?_;refine au fun K6 dG=>?_;refine bI ?_;refine aR ?_;refine ixs 4 4 (fun x5=>(mH x5 (av.2.2.1.es (jH:Int).toNat))) (kG p0.Lines av.2.2.1) hM fun x5 hx6 hM=>?_;refine oA rfl fun b7=>?_;refine oa ?_;refine oS b7 (mH x5 (av.2.2.1.es (jH:Int).toNat)) ?_;refine on ?_;refine au fun K8 gP=>?_;refine bI ?_;refine sr ?_;refine fo 0 ?_;obtain⟨y8,nT,hM⟩:=bind_some hM;refine cv (fun hs=>alv _ _ x5.Name y8 nT (aM hs)) ?_;refine oe iC ?_;refine aN ?_;refine co hM (fun tH hM=>?_) (fun tH hM=>?_)
  · refine aJ ?_;exact aF (aZ hM)
  refine sr ?_;refine fo 3 ?_;refine om ?_;obtain⟨LW,hl12,hM⟩:=bind_some hM;refine bf (J3 (r:=av.2.2.1) (xs:=p0.Lines) (ol:=none) (oh:=some (.i64,(jH:Int))) (Sk.dw (α:=List Line) (r:=av.2.2.1) (x:=p0.Lines) hA) hl12 (fun wU=>?_));refine oe KT ?_;obtain⟨eZ,uz,hM⟩:=bind_some hM;refine cv (fun hs=>awf _ _ LW wU b7 x5 (av.2.2.1.es (jH:Int).toNat) eZ uz (aM hs) (kM hs) (lQ hA hs) (Kn.lend ((Sk.elem (Sk.dw (α:=List Line) (r:=av.2.2.1) (x:=p0.Lines) hA) hx6)).kn hs)) ?_;refine aN ?_;refine co hM (fun hc16 hM=>?_) (fun hc16 hM=>?_)
  · refine aJ ?_;exact aF (aZ hM)
  refine jl y (k:=Mk x5 l0 p0 aK jH) [2,3,6,10,11,12] (fun WY=>[(29,.v (.bool WY))]) [0] (fun WY=>[]) ?_ ?_
  · intro FR hJ3;refine go ?_;refine co hM (fun hc24 hM=>?_) (fun hc24 hM=>?_)
    ·refine gG (hJ3 hM sS rI)
    refine go ?_;refine co hM (fun hc25 hM=>?_) (fun hc25 hM=>?_)
    ·refine gG (hJ3 hM sS rI)
    refine bg ?_;refine fo 2 ?_;obtain⟨mW,hy27,hM⟩:=bind_some hM;refine cv (fun hs=>aiW _ _ x5.Weight mW hy27 (aM hs)) ?_;refine oe iC ?_;refine oa ?_;refine bq (hJ3 hM sS rI)
  clear hM;rintro WY hM;dsimp only[Mk,cA,nA] at hM ⊢;refine co hM (fun hc17 hM=>?_) (fun hc17 hM=>?_)
  · refine aJ ?_;exact aF (aZ hM)
  refine go ?_;refine co hM (fun hc18 hM=>?_) (fun hc18 hM=>?_)
  · refine aJ ?_;exact aF (aZ hM)
  refine cs gP ?_;refine sr ?_;refine fo 3 ?_;refine kK (fun w hm=>Kn.len ((Sk.elem (Sk.dw (α:=List Line) (r:=av.2.2.1) (x:=p0.Lines) hA) hx6)).kn hm) fun axu=>?_;refine go ?_;refine lk hM [2,3,6,10,11,12,50] (fun J8=>[(51,eI (J8:Int))]) [] (fun J8=>[]) ?_;clear hM;rintro eU J8 hM xA hL2;dsimp only[UG,cA,nA] at hM ⊢;refine sr ?_;refine oe gq ?_;refine on ?_;refine au fun H7 wo=>?_;refine co hM (fun zN hM=>?_) (fun zN hM=>?_)
  · have axi:=of_decide_eq_true zN;refine cs wo ?_;refine au fun Ca pY=>?_;refine go ?_;obtain⟨y21,Lu,hM⟩:=bind_some hM;refine cv (fun hs=>atS _ _ l0 aD p0 av x5 (av.2.2.1.es (jH:Int).toNat) (J8:Int) y21 Lu (aM hs) ⟨(kM hs),(kM hs),(kM hs),(kM hs)⟩ ⟨(kM hs),(kM hs),(kM hs),(kM hs),(kM hs),(kM hs),(kM hs)⟩ (Kn.lend ((Sk.elem (Sk.dw (α:=List Line) (r:=av.2.2.1) (x:=p0.Lines) hA) hx6)).kn hs)) ?_;refine go ?_;refine co hM (fun Ld hM=>?_) (fun Ld hM=>?_)
    ·refine aR ?_;refine aN ?_;exact aF (aZ hM)
    refine cs pY ?_;refine bg ?_;refine oe (dP (hr:=fun _=>by unfold gN;omega)) ?_;refine om ?_;refine bq (hL2 hM sS rI)
  refine cx dG ?_;dsimp only[aiQ] at hM;refine bg ?_;refine oe (dP (hr:=fun _=>by unfold gN;omega)) ?_;refine om ?_;refine bq (hL1 hM sS rI)
 refine cx hK2 ?_;dsimp only[aiP] at hM;refine aJ ?_;exact aF (aZ hM)
def aiN:Unit→Option Int:=fun _=>
 some 0
def Zm(p0:Plan)(l0:Layout)(aK:Nat→Option Int):Nat→Option Int:=fun jH=>
 if decide ((jH:Int)<(p0.Changes.length:Int)) then
  ((idx p0.Changes (jH:Int)).bind fun x5=>
  (Jl p0 x5.fV x5.iy).bind fun y8=>
  (dH (!(!y8)) default (Jl p0 x5.iG x5.kQ)).bind fun iw=>
  (dH (!(((!y8)||(!iw))||decide (x5.fV=x5.iG))) default (Mj p0 x5.Min x5.Max)).bind fun fB=>
  (dH (!((((!y8)||(!iw))||decide (x5.fV=x5.iG))||(!fB))) default (UU x5.Weight)).bind fun eZ=>
  if (((((!y8)||(!iw))||decide (x5.fV=x5.iG))||(!fB))||(!eZ)) then
   (some 4)
  else
   ((idx p0.Lines x5.fV).bind fun kr=>
   (idx kr.bD x5.iy).bind fun FM=>
   (Mt p0 FM).bind fun y21=>
   (idx l0.Sections y21).bind fun x23=>
   (idx p0.Lines x5.iG).bind fun x25=>
   (idx x25.bD x5.kQ).bind fun x27=>
   (Ms p0 x27).bind fun y29=>
   (idx l0.Sections y29).bind fun x31=>
   if (decide (x23.nH=(-1))||decide (x23.nH≠x31.nH)) then
    (some 11)
   else
    (aK (jH+1))))
 else
  (aiN ())
def O4(l0:Layout)(p0:Plan):Option Int:=
 iter (Zm p0 l0) FUEL 0
theorem atN(S:aW)(w:World)(l0:Layout)(aD:ah.R Layout)(p0:Plan)(av:ah.R Plan)(y:Int)(hM:O4 l0 p0=some y)(hS:sB S w)(dQ:ah.ok S w aD l0)(eF:ah.ok S w av p0):
   Calls Tryz.prog 36 #[.agg (jy l0 aD),.agg (jI p0 av)] w (bM w (vI y)):=by
 refine bF (args:=[_,_]) Tryz.func36 rfl ((pre_nil hS).start |>.je dQ|>.jZ eF) rfl ?_;unfold O4 at hM;refine sr ?_;refine oB (iR l0 aD) fun b1=>?_;refine oB (kX p0 av) fun b2=>?_;refine aN ?_;refine au fun K2 hK2=>?_;refine sr ?_;refine fo 4 ?_;refine kK (fun w hm=>Kn.len (kG p0.Changes av.2.2.2.1) hm) fun hl3=>?_;refine go ?_;refine lk hM [2,3,10,11] (fun jH=>[(12,eI (jH:Int))]) [] (fun jH=>[]) ?_;clear hM;rintro aK jH hM eO hL1;dsimp only[Zm,cA,nA] at hM ⊢;refine sr ?_;refine oe gq ?_;refine on ?_;refine au fun K5 dx=>?_;refine co hM (fun hc4 hM=>?_) (fun hc4 hM=>?_)
 ·have IU:=of_decide_eq_true hc4;refine cs dx ?_;refine au fun K6 dG=>?_;refine bI ?_;refine sr ?_;refine ixs 7 7 (fun x5=>(GD x5)) (kG p0.Changes av.2.2.2.1) hM fun x5 hx6 hM=>?_;refine oA rfl fun b7=>?_;refine oS b7 (GD x5) ?_;refine on ?_;refine au fun K8 gP=>?_;refine go ?_;obtain⟨y8,nT,hM⟩:=bind_some hM;refine cv (fun hs=>Zv _ _ p0 av x5.fV x5.iy y8 nT (aM hs) ⟨(kM hs),(kM hs),(kM hs),(kM hs),(kM hs),(kM hs),(kM hs)⟩) ?_;refine go ?_;obtain⟨iw,su,hM⟩:=bind_some hM;refine cg rfl (fun hg hs=>Zv _ _ p0 av x5.iG x5.kQ iw (cu su hg) (aM hs) ⟨(kM hs),(kM hs),(kM hs),(kM hs),(kM hs),(kM hs),(kM hs)⟩) ?_;refine go ?_;obtain⟨fB,DN,hM⟩:=bind_some hM;refine cg rfl (fun hg hs=>aey _ _ p0 av x5.Min x5.Max fB (cu DN hg) (aM hs) ⟨(kM hs),(kM hs),(kM hs),(kM hs),(kM hs),(kM hs),(kM hs)⟩) ?_;refine go ?_;obtain⟨eZ,uz,hM⟩:=bind_some hM;refine cg rfl (fun hg hs=>aiW _ _ x5.Weight eZ (cu uz hg) (aM hs)) ?_;refine bY rfl iC ?_;refine oe rT ?_;refine oc hM (fun hc16 hM=>?_) (fun hc16 hM=>?_)
  · refine aJ ?_;exact aF (aZ hM)
  refine cs gP ?_;refine au fun nG gH=>?_;refine dS _ (List.Sublist.refl _) ?_;refine fa 0 2 ?_;refine ay 2 rfl fC ?_;refine fa 3 3 ?_;refine fa 5 0 ?_;refine iQ 7 4 3 (kG p0.Lines av.2.2.1) hM fun kr AU hM=>?_;refine fa 10 1 ?_;obtain⟨FM,adf,hM⟩:=bind_some hM;refine ay 12 rfl (dL 4 ((Sk.elem (Sk.dw (α:=List Line) (r:=av.2.2.1) (x:=p0.Lines) hA) AU)).kn (iS adf)) ?_;refine ay 13 rfl (Ce (m:=4) (i:=x5.iy) (xs:=kr.bD) (y:=FM) (l:=(zY FM)) 0 ((Sk.elem (Sk.dw (α:=List Line) (r:=av.2.2.1) (x:=p0.Lines) hA) AU)).kn (fun _=>adf)) ?_;obtain⟨y21,Lu,hM⟩:=bind_some hM;refine bT 14 rfl (sV (fun hs=>aeH _ _ p0 av FM y21 Lu (aM hs) ⟨(kM hs),(kM hs),(kM hs),(kM hs),(kM hs),(kM hs),(kM hs)⟩) ⟨rI,?_⟩);refine iQ 15 5 4 (kG l0.Sections aD.2.2.1) hM fun x23 hx24 hM=>?_;refine ay 18 rfl eX ?_;refine bS (gH _ _ ?_);refine au fun BZ pX=>?_;refine dS _ (List.Sublist.refl _) ?_;refine fa 0 2 ?_;refine ay 2 rfl fC ?_;refine fa 3 3 ?_;refine fa 5 2 ?_;refine iQ 7 4 3 (kG p0.Lines av.2.2.1) hM fun x25 Gl hM=>?_;refine fa 10 3 ?_;obtain⟨x27,hx28,hM⟩:=bind_some hM;refine ay 12 rfl (dL 4 ((Sk.elem (Sk.dw (α:=List Line) (r:=av.2.2.1) (x:=p0.Lines) hA) Gl)).kn (iS hx28)) ?_;refine ay 13 rfl (Ce (m:=4) (i:=x5.kQ) (xs:=x25.bD) (y:=x27) (l:=(zY x27)) 0 ((Sk.elem (Sk.dw (α:=List Line) (r:=av.2.2.1) (x:=p0.Lines) hA) Gl)).kn (fun _=>hx28)) ?_;obtain⟨y29,Td,hM⟩:=bind_some hM;refine bT 14 rfl (sV (fun hs=>aeG _ _ p0 av x27 y29 Td (aM hs) ⟨(kM hs),(kM hs),(kM hs),(kM hs),(kM hs),(kM hs),(kM hs)⟩) ⟨rI,?_⟩);refine iQ 15 5 4 (kG l0.Sections aD.2.2.1) hM fun x31 hx32 hM=>?_;refine ay 18 rfl eX ?_;refine bS (pX _ _ ?_);refine go ?_;refine co hM (fun SE hM=>?_) (fun SE hM=>?_)
  · refine aJ ?_;exact aF (aZ hM)
  refine cs dG ?_;refine bg ?_;refine oe (dP (hr:=fun _=>by unfold gN;omega)) ?_;refine om ?_;refine bq (hL1 hM sS rI)
 refine cx hK2 ?_;dsimp only[aiN] at hM;refine aJ ?_;exact aF (aZ hM)
def Zu(p0:Plan)(aK:Nat→Option Int)(jH:Nat):(Str×Int×Int×(List bW)×Str×Int×Int×(List bW))→Option Int:=fun (Yn,Sb,Yo,Gu,aa8,W9,aa9,L8)=>
 aO (aX ((Gu.length:Int)-1))<|
 (idx Gu ((Gu.length:Int)-1)).bind fun nC=>
 (idx L8 0).bind fun x24=>
 (Mt p0 nC).bind fun mW=>
 (Ms p0 x24).bind fun y28=>
 if (decide (mW≠y28)||decide (Sb≠W9)) then
  (some 11)
 else
  (aK (jH+1))
def aiU:Unit→Option Int:=fun _=>
 some 0
def Zt(p0:Plan)(aK:Nat→Option Int):Nat→Option Int:=fun jH=>
 if decide ((jH:Int)<(p0.Turns.length:Int)) then
  ((idx p0.Turns (jH:Int)).bind fun x5=>
  (Ml p0 x5.From).bind fun y8=>
  (dH (!(!y8)) default (Ml p0 x5.To)).bind fun iw=>
  (dH (!((!y8)||(!iw))) default (Mj p0 x5.Min x5.Max)).bind fun fB=>
  if (((!y8)||(!iw))||(!fB)) then
   (some 4)
  else
   ((sub p0.Turns 0 (jH:Int)).bind fun DX=>
   (WJ DX x5).bind fun jc=>
   if jc then
    (some 5)
   else
    ((idx p0.Lines x5.From).bind fun x31=>
    (idx p0.Lines x5.To).bind fun pO=>
    Zu p0 aK jH (x31.Name,x31.aQ,x31.Weight,x31.bD,pO.Name,pO.aQ,pO.Weight,pO.bD))))
 else
  (aiU ())
def Pg(l0:Layout)(p0:Plan):Option Int:=
 iter (Zt p0) FUEL 0
theorem atZ(S:aW)(w:World)(l0:Layout)(aD:ah.R Layout)(p0:Plan)(av:ah.R Plan)(y:Int)(hM:Pg l0 p0=some y)(hS:sB S w)(dQ:ah.ok S w aD l0)(eF:ah.ok S w av p0):
   Calls Tryz.prog 37 #[.agg (jy l0 aD),.agg (jI p0 av)] w (bM w (vI y)):=by
 refine bF (args:=[_,_]) Tryz.func37 rfl ((pre_nil hS).start |>.je dQ|>.jZ eF) rfl ?_;unfold Pg at hM;refine sr ?_;refine oB (iR l0 aD) fun b1=>?_;refine oB (kX p0 av) fun b2=>?_;refine aN ?_;refine au fun K2 hK2=>?_;refine sr ?_;refine fo 5 ?_;refine kK (fun w hm=>Kn.len (kG p0.Turns av.2.2.2.2.1) hm) fun hl3=>?_;refine go ?_;refine lk hM [3,10,11] (fun jH=>[(12,eI (jH:Int))]) [1,7,0,0,0] (fun jH=>[]) ?_;clear hM;rintro aK jH hM eO hL1;dsimp only[Zt,cA,nA] at hM ⊢;refine sr ?_;refine oe gq ?_;refine on ?_;refine au fun K5 dx=>?_;refine co hM (fun hc4 hM=>?_) (fun hc4 hM=>?_)
 ·have IU:=of_decide_eq_true hc4;refine cs dx ?_;refine au fun K6 dG=>?_;refine bI ?_;refine aR ?_;refine ixs 4 4 (fun x5=>(zZ x5)) (kG p0.Turns av.2.2.2.2.1) hM fun x5 hx6 hM=>?_;refine oA rfl fun b7=>?_;refine oa ?_;refine oS b7 (zZ x5) ?_;refine on ?_;refine au fun K8 gP=>?_;refine go ?_;obtain⟨y8,nT,hM⟩:=bind_some hM;refine cv (fun hs=>aeD _ _ p0 av x5.From y8 nT (aM hs) ⟨(kM hs),(kM hs),(kM hs),(kM hs),(kM hs),(kM hs),(kM hs)⟩) ?_;refine go ?_;obtain⟨iw,su,hM⟩:=bind_some hM;refine cg rfl (fun hg hs=>aeD _ _ p0 av x5.To iw (cu su hg) (aM hs) ⟨(kM hs),(kM hs),(kM hs),(kM hs),(kM hs),(kM hs),(kM hs)⟩) ?_;refine go ?_;obtain⟨fB,DN,hM⟩:=bind_some hM;refine cg rfl (fun hg hs=>aey _ _ p0 av x5.Min x5.Max fB (cu DN hg) (aM hs) ⟨(kM hs),(kM hs),(kM hs),(kM hs),(kM hs),(kM hs),(kM hs)⟩) ?_;refine bY rfl iC ?_;refine oe rT ?_;refine oc hM (fun yM hM=>?_) (fun yM hM=>?_)
  · refine aJ ?_;exact aF (aZ hM)
  refine cs gP ?_;refine au fun nG gH=>?_;refine sr ?_;refine fo 5 ?_;refine om ?_;obtain⟨DX,ahA,hM⟩:=bind_some hM;refine bf (J3 (r:=av.2.2.2.2.1) (xs:=p0.Turns) (ol:=none) (oh:=some (.i64,(jH:Int))) (Sk.dw (α:=List Turn) (r:=av.2.2.2.2.1) (x:=p0.Turns) hA) ahA (fun tQ=>?_));refine oe KT ?_;obtain⟨jc,xL,hM⟩:=bind_some hM;refine cv (fun hs=>awh _ _ DX tQ b7 x5 jc xL (aM hs) (kM hs) (lQ hA hs)) ?_;refine oc hM (fun zN hM=>?_) (fun zN hM=>?_)
  · refine aJ ?_;exact aF (aZ hM)
  refine cs gH ?_;refine jk (Nat×Nat) y (k:=Zu p0 aK jH) [3,10,11,12] (fun (Yn,Sb,Yo,Gu,aa8,W9,aa9,L8) (XY,X6)=>[(7,eP XY),(8,eP X6)]) [0,0] (fun (Yn,Sb,Yo,Gu,aa8,W9,aa9,L8) (XY,X6)=>[iL Gu (av.2.2.1.es x5.From.toNat),own XY 56 [.string Yn.ba,vI Sb,vI Yo,sL (av.2.2.1.es x5.From.toNat) Gu],iL L8 (av.2.2.1.es x5.To.toNat),own X6 56 [.string aa8.ba,vI W9,vI aa9,sL (av.2.2.1.es x5.To.toNat) L8]]) ?_ ?_
  · intro zB hJ2;refine dS _ (List.Sublist.refl _) ?_;refine fa 0 3 ?_;refine fa 2 0 ?_;refine kH 4 4 4 (fun x31=>(mH x31 (av.2.2.1.es x5.From.toNat))) (kG p0.Lines av.2.2.1) hM fun x31 hx32 hM=>?_;refine fa 6 3 ?_;refine fa 8 1 ?_;refine kH 10 4 4 (fun pO=>(mH pO (av.2.2.1.es x5.To.toNat))) (kG p0.Lines av.2.2.1) hM fun pO hx34 hM=>?_;refine jA 12 13 (⟨_,rfl,rfl,gU rfl (k:=fun b35=>⟨rI,?_⟩)⟩) (⟨_,rfl,rfl,gU rfl (k:=fun Rp=>⟨rI,?_⟩)⟩)
    ·refine aA 13 rfl rfl fun Ij=>?_;refine aS 14 rfl b35 (mH x31 (av.2.2.1.es x5.From.toNat)) ?_;refine aS 15 rfl Ij (mH pO (av.2.2.1.es x5.To.toNat)) ?_;refine Ih (fun w hm=>hm.AV (α:=List bW) (r:=(av.2.2.1.es x5.From.toNat)) (x:=x31.bD) (fun S hs=>(Sk.elem (Sk.dw (α:=List Line) (r:=av.2.2.1) (x:=p0.Lines) hA) hx32) S w hs)) ?_;refine Ih (fun w hm=>hm.AV (α:=List bW) (r:=(av.2.2.1.es x5.To.toNat)) (x:=pO.bD) (fun S hs=>(Sk.elem (Sk.dw (α:=List Line) (r:=av.2.2.1) (x:=p0.Lines) hA) hx34) S w hs)) ?_;refine bS (hJ2 (b35,Ij) hM sS rI)
    refine aA 12 rfl rfl fun Dq=>?_;refine aS 14 rfl Dq (mH x31 (av.2.2.1.es x5.From.toNat)) ?_;refine aS 15 rfl Rp (mH pO (av.2.2.1.es x5.To.toNat)) ?_;refine Ih (fun w hm=>hm.AV (α:=List bW) (r:=(av.2.2.1.es x5.From.toNat)) (x:=x31.bD) (fun S hs=>(Sk.elem (Sk.dw (α:=List Line) (r:=av.2.2.1) (x:=p0.Lines) hA) hx32) S w hs)) ?_;refine Ih (fun w hm=>hm.AV (α:=List bW) (r:=(av.2.2.1.es x5.To.toNat)) (x:=pO.bD) (fun S hs=>(Sk.elem (Sk.dw (α:=List Line) (r:=av.2.2.1) (x:=p0.Lines) hA) hx34) S w hs)) ?_;refine bS (hJ2 (Dq,Rp) hM sS rI)
  clear hM;rintro⟨Yn,Sb,Yo,Gu,aa8,W9,aa9,L8⟩ ⟨XY,X6⟩ hM;dsimp only[Zu,cA,nA] at hM ⊢;refine au fun yu mX=>?_;refine dS _ (List.Sublist.refl _) ?_;refine ay 0 rfl fC ?_;refine fa 1 3 ?_;refine fa 3 3 ?_;refine ay 5 rfl jq ?_;obtain⟨acw,hM⟩:=bQ hM;refine ay 6 rfl (pW (hr:=fun hg=>dU acw)) ?_;refine kH 7 4 4 (fun nC=>(zY nC)) (kG Gu (av.2.2.1.es x5.From.toNat)) hM fun nC YK hM=>?_;refine ay 10 rfl fC ?_;refine fa 11 3 ?_;refine kH 13 4 4 (fun x24=>(zY x24)) (kG L8 (av.2.2.1.es x5.To.toNat)) hM fun x24 hx25 hM=>?_;obtain⟨mW,hy27,hM⟩:=bind_some hM;refine bT 9 rfl (sV (fun hs=>aeH _ _ p0 av nC mW hy27 (aM hs) ⟨(kM hs),(kM hs),(kM hs),(kM hs),(kM hs),(kM hs),(kM hs)⟩) ⟨rI,?_⟩);obtain⟨y28,hy29,hM⟩:=bind_some hM;refine bT 15 rfl (sV (fun hs=>aeG _ _ p0 av x24 y28 hy29 (aM hs) ⟨(kM hs),(kM hs),(kM hs),(kM hs),(kM hs),(kM hs),(kM hs)⟩) ⟨rI,?_⟩);refine ay 16 rfl nQ ?_;refine am 17 ?_;refine dX 18 rfl rfl (aY 1) ?_;refine dX 19 rfl rfl gZ ?_;refine dX 20 rfl rfl (aY 1) ?_;refine dX 21 rfl rfl gZ ?_;refine dX 22 rfl rfl nQ ?_;refine ay 23 rfl rT ?_;refine bS (mX _ _ ?_);refine co hM (fun Lf hM=>?_) (fun Lf hM=>?_)
  · refine aJ ?_;exact aF (aZ hM)
  refine cs dG ?_;refine bg ?_;refine oe (dP (hr:=fun _=>by unfold gN;omega)) ?_;refine om ?_;refine bq (hL1 hM sS rI)
 refine cx hK2 ?_;dsimp only[aiU] at hM;refine aJ ?_;exact aF (aZ hM)
def aiT:Unit→Option Int:=fun _=>
 some 0
def Zr(p0:Plan)(aK:Nat→Option Int):Nat→Option Int:=fun qj=>
 if decide ((qj:Int)<(p0.bB.length:Int)) then
  ((idx p0.bB (qj:Int)).bind fun x5=>
  (Jl p0 x5.mE x5.lJ).bind fun y8=>
  (dH (!(!y8)) default (Jl p0 x5.mM x5.lV)).bind fun iw=>
  if (((((!y8)||(!iw))||(decide (x5.mE=x5.mM)&&decide (x5.lJ=x5.lV)))||decide (x5.Offset<0))||decide (p0.bJ≤x5.Offset)) then
   (some 4)
  else
   (aK (qj+1)))
 else
  (aiT ())
def Pf(l0:Layout)(p0:Plan):Option Int:=
 iter (Zr p0) FUEL 0
theorem atX(S:aW)(w:World)(l0:Layout)(aD:ah.R Layout)(p0:Plan)(av:ah.R Plan)(y:Int)(hM:Pf l0 p0=some y)(hS:sB S w)(dQ:ah.ok S w aD l0)(eF:ah.ok S w av p0):
   Calls Tryz.prog 38 #[.agg (jy l0 aD),.agg (jI p0 av)] w (bM w (vI y)):=by
 refine bF (args:=[_,_]) Tryz.func38 rfl ((pre_nil hS).start |>.je dQ|>.jZ eF) rfl ?_;unfold Pf at hM;refine sr ?_;refine oB (iR l0 aD) fun b1=>?_;refine oB (kX p0 av) fun b2=>?_;refine aN ?_;refine au fun K2 hK2=>?_;refine sr ?_;refine fo 6 ?_;refine kK (fun w hm=>Kn.len (kG p0.bB av.2.2.2.2.2.1) hm) fun hl3=>?_;refine go ?_;refine lk hM [3,8,9] (fun qj=>[(10,eI (qj:Int))]) [1,7,0,0,0] (fun qj=>[]) ?_;clear hM;rintro aK qj hM eO hL1;dsimp only[Zr,cA,nA] at hM ⊢;refine sr ?_;refine oe gq ?_;refine on ?_;refine au fun K5 dx=>?_;refine co hM (fun hc4 hM=>?_) (fun hc4 hM=>?_)
 ·have IU:=of_decide_eq_true hc4;refine cs dx ?_;refine au fun K6 dG=>?_;refine bI ?_;refine sr ?_;refine ixs 5 5 (fun x5=>(Jh x5)) (kG p0.bB av.2.2.2.2.2.1) hM fun x5 hx6 hM=>?_;refine oA rfl fun b7=>?_;refine oS b7 (Jh x5) ?_;refine go ?_;obtain⟨y8,nT,hM⟩:=bind_some hM;refine cv (fun hs=>Zv _ _ p0 av x5.mE x5.lJ y8 nT (aM hs) ⟨(kM hs),(kM hs),(kM hs),(kM hs),(kM hs),(kM hs),(kM hs)⟩) ?_;refine go ?_;obtain⟨iw,su,hM⟩:=bind_some hM;refine cg rfl (fun hg hs=>Zv _ _ p0 av x5.mM x5.lV iw (cu su hg) (aM hs) ⟨(kM hs),(kM hs),(kM hs),(kM hs),(kM hs),(kM hs),(kM hs)⟩) ?_;refine go ?_;refine co hM (fun mP hM=>?_) (fun mP hM=>?_)
  · refine aJ ?_;exact aF (aZ hM)
  refine cs dG ?_;refine bg ?_;refine oe (dP (hr:=fun _=>by unfold gN;omega)) ?_;refine om ?_;refine bq (hL1 hM sS rI)
 refine cx hK2 ?_;dsimp only[aiT] at hM;refine aJ ?_;exact aF (aZ hM)
def aiO:Unit→Option Int:=fun _=>
 some 0
def Zn(p0:Plan)(l0:Layout)(aK:Nat→Option Int):Nat→Option Int:=fun qj=>
 if decide ((qj:Int)<(p0.bA.length:Int)) then
  ((idx p0.bA (qj:Int)).bind fun x5=>
  if ((((((decide (x5.From<0)||decide ((l0.aT.length:Int)≤x5.From))||decide (x5.To<0))||decide ((l0.aT.length:Int)≤x5.To))||decide (x5.From=x5.To))||decide (x5.Weight<1))||decide (1048576<x5.Weight)) then
   (some 4)
  else
   (aK (qj+1)))
 else
  (aiO ())
def O5(l0:Layout)(p0:Plan):Option Int:=
 iter (Zn p0 l0) FUEL 0
theorem atO(S:aW)(w:World)(l0:Layout)(aD:ah.R Layout)(p0:Plan)(av:ah.R Plan)(y:Int)(hM:O5 l0 p0=some y)(hS:sB S w)(dQ:ah.ok S w aD l0)(eF:ah.ok S w av p0):
   Calls Tryz.prog 39 #[.agg (jy l0 aD),.agg (jI p0 av)] w (bM w (vI y)):=by
 refine bF (args:=[_,_]) Tryz.func39 rfl ((pre_nil hS).start |>.je dQ|>.jZ eF) rfl ?_;unfold O5 at hM;refine sr ?_;refine oB (iR l0 aD) fun b1=>?_;refine oB (kX p0 av) fun b2=>?_;refine aN ?_;refine au fun K2 hK2=>?_;refine sr ?_;refine fo 7 ?_;refine kK (fun w hm=>Kn.len (kG p0.bA av.2.2.2.2.2.2) hm) fun hl3=>?_;refine go ?_;refine lk hM [2,8,9] (fun qj=>[(10,eI (qj:Int))]) [0,2,0,0,0,0,0] (fun qj=>[]) ?_;clear hM;rintro aK qj hM eO hL1;dsimp only[Zn,cA,nA] at hM ⊢;refine sr ?_;refine oe gq ?_;refine on ?_;refine au fun K5 dx=>?_;refine co hM (fun hc4 hM=>?_) (fun hc4 hM=>?_)
 ·have IU:=of_decide_eq_true hc4;refine cs dx ?_;refine au fun K6 dG=>?_;refine bI ?_;refine sr ?_;refine ixs 3 3 (fun x5=>(Jg x5)) (kG p0.bA av.2.2.2.2.2.2) hM fun x5 hx6 hM=>?_;refine oA rfl fun b7=>?_;refine oS b7 (Jg x5) ?_;refine go ?_;refine co hM (fun hc8 hM=>?_) (fun hc8 hM=>?_)
  · refine aJ ?_;exact aF (aZ hM)
  refine cs dG ?_;refine bg ?_;refine oe (dP (hr:=fun _=>by unfold gN;omega)) ?_;refine om ?_;refine bq (hL1 hM sS rI)
 refine cx hK2 ?_;dsimp only[aiO] at hM;refine aJ ?_;exact aF (aZ hM)
def Zl(x:Nat)(l0:Layout)(p0:Plan):Option Int:=
 if x=32 then O9 l0 p0
 else if x=33 then Pb l0 p0
 else if x=34 then O8 l0 p0
 else if x=35 then O6 l0 p0
 else if x=36 then O4 l0 p0
 else if x=37 then Pg l0 p0
 else if x=38 then Pf l0 p0
 else if x=39 then O5 l0 p0
 else none
theorem atK{i:Int}{x:Nat}(h:idx ([32,33,34,35,36,37,38,39]:List Nat) i=some x):callable Tryz.prog x=true:=by
 have hm:=List.mem_of_getElem? (jX h).2.2
 simp only[List.mem_cons,List.not_mem_nil,or_false] at hm
 rcases hm with rfl|rfl|rfl|rfl|rfl|rfl|rfl|rfl
 ·exact (show callable Tryz.prog 32=true by kernel_rfl)
 ·exact (show callable Tryz.prog 33=true by kernel_rfl)
 ·exact (show callable Tryz.prog 34=true by kernel_rfl)
 ·exact (show callable Tryz.prog 35=true by kernel_rfl)
 ·exact (show callable Tryz.prog 36=true by kernel_rfl)
 ·exact (show callable Tryz.prog 37=true by kernel_rfl)
 ·exact (show callable Tryz.prog 38=true by kernel_rfl)
 ·exact (show callable Tryz.prog 39=true by kernel_rfl)
theorem atL(x:Nat)(S:aW)(w:World)(l0:Layout)(aD:ah.R Layout)(p0:Plan)(av:ah.R Plan)(y:Int)(hM:Zl x l0 p0=some y)(hS:sB S w)(dQ:ah.ok S w aD l0)(eF:ah.ok S w av p0):
  Calls Tryz.prog x #[.agg (jy l0 aD),.agg (jI p0 av)] w (bM w (vI y)):=by
 unfold Zl at hM
 split at hM
 ·rename_i h;subst h;exact atU S w l0 aD p0 av y hM hS dQ eF
 split at hM
 ·rename_i h;subst h;exact atW S w l0 aD p0 av y hM hS dQ eF
 split at hM
 ·rename_i h;subst h;exact atT S w l0 aD p0 av y hM hS dQ eF
 split at hM
 ·rename_i h;subst h;exact atQ S w l0 aD p0 av y hM hS dQ eF
 split at hM
 ·rename_i h;subst h;exact atN S w l0 aD p0 av y hM hS dQ eF
 split at hM
 ·rename_i h;subst h;exact atZ S w l0 aD p0 av y hM hS dQ eF
 split at hM
 ·rename_i h;subst h;exact atX S w l0 aD p0 av y hM hS dQ eF
 split at hM
 ·rename_i h;subst h;exact atO S w l0 aD p0 av y hM hS dQ eF
 cases hM
def aiL:Unit→Option Int:=fun _=>
 some 0
def Zk(l0:Layout)(p0:Plan)(aK:Nat→Option Int):Nat→Option Int:=fun vO=>
 if decide ((vO:Int)<8) then
  ((idx ([32,33,34,35,36,37,38,39]:List Nat) (vO:Int)).bind fun x5=>
  (Zl x5 l0 p0).bind fun y7=>
  if decide (y7≠0) then
   (some y7)
  else
   (aK (vO+1)))
 else
  (aiL ())
def O1(l0:Layout)(p0:Plan):Option Int:=
 iter (Zk l0 p0) FUEL 0
theorem aiM(S:aW)(w:World)(l0:Layout)(aD:ah.R Layout)(p0:Plan)(av:ah.R Plan)(y:Int)(hM:O1 l0 p0=some y)(hS:sB S w)(dQ:ah.ok S w aD l0)(eF:ah.ok S w av p0):
   Calls Tryz.prog 13 #[.agg (jy l0 aD),.agg (jI p0 av)] w (bM w (vI y)):=by
 refine bF (args:=[_,_]) Tryz.func13 rfl ((pre_nil hS).start |>.je dQ|>.jZ eF) rfl ?_;unfold O1 at hM;refine sr ?_;refine oB (iR l0 aD) fun b1=>?_;refine oB (kX p0 av) fun b2=>?_;refine aN ?_;refine sr ?_;refine oe (dO [.func (.func 32) #[] #[],.func (.func 33) #[] #[],.func (.func 34) #[] #[],.func (.func 35) #[] #[],.func (.func 36) #[] #[],.func (.func 37) #[] #[],.func (.func 38) #[] #[],.func (.func 39) #[] #[]]) ?_;refine oA rfl fun b3=>?_;refine oS b3 [.func (.func 32) #[] #[],.func (.func 33) #[] #[],.func (.func 34) #[] #[],.func (.func 35) #[] #[],.func (.func 36) #[] #[],.func (.func 37) #[] #[],.func (.func 38) #[] #[],.func (.func 39) #[] #[]] ?_;refine on ?_;refine au fun K3 hK3=>?_;refine go ?_;refine lk hM [2,3,10] (fun vO=>[(11,eI (vO:Int))]) [0] (fun vO=>[]) ?_;clear hM;rintro aK vO hM eO hL1;dsimp only[Zk,cA,nA] at hM ⊢;refine sr ?_;refine oe gq ?_;refine on ?_;refine au fun K6 dG=>?_;refine co hM (fun hc4 hM=>?_) (fun hc4 hM=>?_)
 ·have IU:=of_decide_eq_true hc4;refine cs dG ?_;refine au fun K7 gu=>?_;refine bI ?_;refine sr ?_;obtain⟨x5,hx6,hM⟩:=bind_some hM;refine oe (anj (xs:=([32,33,34,35,36,37,38,39]:List Nat)) [.func (.func 32) #[] #[],.func (.func 33) #[] #[],.func (.func 34) #[] #[],.func (.func 35) #[] #[],.func (.func 36) #[] #[],.func (.func 37) #[] #[],.func (.func 38) #[] #[],.func (.func 39) #[] #[]] (fun _=>hx6)) ?_;refine go ?_;obtain⟨y7,DT,hM⟩:=bind_some hM;refine bf (Nc (vs:=[.agg (jy l0 aD),.agg (jI p0 av)]) (cap:=[]) (hf:=atK hx6) (fun w hm=>let ⟨S,hs⟩:=hm;atL x5 _ w l0 aD p0 av y7 DT (aM hs) ⟨(kM hs),(kM hs),(kM hs),(kM hs)⟩ ⟨(kM hs),(kM hs),(kM hs),(kM hs),(kM hs),(kM hs),(kM hs)⟩) ?_);refine go ?_;refine co hM (fun qY hM=>?_) (fun qY hM=>?_)
  · refine aR ?_;refine aN ?_;exact aF (aZ hM)
  refine cs gu ?_;refine bg ?_;refine oe (dP (hr:=fun _=>by unfold gN;omega)) ?_;refine om ?_;refine bq (hL1 hM sS rI)
 refine cx hK3 ?_;dsimp only[aiL] at hM;refine aJ ?_;exact aF (aZ hM)
end Go.Proofs.YtcalibhfgdncaaaGreatDoor

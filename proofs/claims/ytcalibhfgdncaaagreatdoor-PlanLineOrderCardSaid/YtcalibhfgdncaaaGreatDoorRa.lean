/- Functions: models, proved of the code. -/
import Derived.Test.YtcalibhfgdncaaaGreatDoorOf
import Derived.Test.YtcalibhfgdncaaaGreatDoorR0
namespace Go.Proofs.YtcalibhfgdncaaaGreatDoor
open Go.Dc Go.RowKit
attribute [local irreducible] CW OW AW AZ Ev
set_option maxHeartbeats 0
set_option maxRecDepth 10000
set_option linter.all false
def MO(c0:Int):Option Bool:=
 some ((decide (33≤c0)&&decide (c0≤126))&&decide (c0≠35))
theorem ajT(S:aW)(w:World)(c0:Int)(y:Bool)(hM:MO c0=some y)(hS:sB S w):
  Calls Tryz.prog 170 #[.int .u8 c0] w (bM w (.bool y)):=by
 refine bF (args:=[_]) Tryz.func170 rfl ((pre_nil hS).start) rfl ?_;unfold MO at hM;refine go ?_;exact aF (aZ hM)
def Jz(aH:Nat)(aK:((List Word)×Nat)→Option ((List Word)×Int)):(List Word)→Option ((List Word)×Int):=fun OM=>
 aO (aX ((aH:Int)+1))<|
 aK (OM,aH+1)
def ZW(sH:List Word):Unit→Option ((List Word)×Int):=fun _=>
 if decide (64<(sH.length:Int)) then
  (some (([]:List Word),7))
 else
  (some (sH,0))
def Vu(s0:Str)(eD:Int)(aK:((List Word)×Nat)→Option ((List Word)×Int)):((List Word)×Nat)→Option ((List Word)×Int):=fun (sH,aH)=>
 (dH (decide ((aH:Int)<(s0.l.length:Int))) 0 (kD s0 (aH:Int))).bind fun c2=>
 if (decide ((aH:Int)<(s0.l.length:Int))&&decide (c2≠35)) then
  ((kD s0 (aH:Int)).bind fun c6=>
  (dH (!(decide (c6=32))) 0 (kD s0 (aH:Int))).bind fun c8=>
  if (decide (c6=32)||decide (c8=9)) then
   (Jz aH aK sH)
  else
   ((kD s0 (aH:Int)).bind fun c11=>
   (MO c11).bind fun y13=>
   if (!y13) then
    (some (([]:List Word),2))
   else
    (aO (!(decide (0<(aH:Int)))||aX ((aH:Int)-1))<|
    (dH (decide (0<(aH:Int))) 0 (kD s0 ((aH:Int)-1))).bind fun c18=>
    (dH (decide (0<(aH:Int))) default (MO c18)).bind fun y20=>
    if (decide (0<(aH:Int))&&y20) then
     (aO (aX ((sH.length:Int)-1))<|
     (idx sH ((sH.length:Int)-1)).bind fun x24=>
     aO (aX ((aH:Int)+1))<|
     (ji s0 (aH:Int) ((aH:Int)+1)).bind fun UZ=>
     (dM x24.Text UZ).bind fun Jp=>
     (idx sH ((sH.length:Int)-1)).bind fun x31=>
     Jz aH aK (sH.set ((sH.length:Int)-1).toNat (Word.mk Jp x31.Line x31.Col)))
    else
     (aO (aX ((aH:Int)+1))<|
     (ji s0 (aH:Int) ((aH:Int)+1)).bind fun U0=>
     aO (aX ((aH:Int)+1))<|
     aO (decide ((sH.length+([(Word.mk U0 eD ((aH:Int)+1))]:List Word).length)*32≤140737488355328))<|
     Jz aH aK (sH++([(Word.mk U0 eD ((aH:Int)+1))]:List Word))))))
 else
  (ZW sH ())
def Vv(s0:Str)(eD:Int):Option ((List Word)×Int):=
 iter (Vu s0 eD) FUEL (([]:List Word),0)
theorem auK(S:aW)(w:World)(s0:Str)(eD:Int)(y:(List Word)×Int)(hM:Vv s0 eD=some y)(hS:sB S w):
   Calls Tryz.prog 130 #[.string s0.ba,vI eD] w (Post (β:=(ah.R (List Word))) S [] (fun g=> .tuple #[sL g y.1,vI y.2]) (fun g=>[aj 108 g y.1]) w):=by
 refine bF (args:=[_,_]) Tryz.func130 rfl ((pre_nil hS).start) rfl ?_;unfold Vv at hM;refine go ?_;refine au fun K3 hK3=>?_;refine aJ ?_;refine bI ?_;refine rn Word 108 (fun _=>()) ?_;refine lr Je hM [0,1] (fun (sH,aH) Em=>[(6,eS Em sH),(7,eI (aH:Int))]) [0] (fun (sH,aH) Em=>[aj 108 Em sH]) ?_;clear hM;rintro aK ⟨sH,aH⟩ Em hM eO hL1;dsimp only[Vu,cA,nA] at hM ⊢;refine au fun K5 dx=>?_;refine go ?_;obtain⟨c2,apq,hM⟩:=bind_some hM;refine bY rfl (pV (cu apq)) ?_;refine go ?_;refine co hM (fun hc4 hM=>?_) (fun hc4 hM=>?_)
 ·refine cs dx ?_;refine jk (SR (ah.R Word)) y (k:=Jz aH aK) [0,1,7] (fun OM Wm=>[(6,eS Wm OM)]) [0] (fun OM Wm=>[aj 108 Wm OM]) ?_ ?_
  · intro zB hJ2;refine bI ?_;refine au fun K7 gu=>?_;refine aR ?_;refine om ?_;obtain⟨c6,SK,hM⟩:=bind_some hM;refine oe (pV (fun _=>SK)) ?_;refine go ?_;obtain⟨c8,SL,hM⟩:=bind_some hM;refine bY rfl (pV (cu SL)) ?_;refine bY rfl oK ?_;refine oe rT ?_;refine oc hM (fun tH hM=>?_) (fun tH hM=>?_)
    ·refine RP (hJ2 Em hM sS rI)
    refine cs gu ?_;refine au fun K9 fH=>?_;refine aR ?_;refine om ?_;obtain⟨c11,SH,hM⟩:=bind_some hM;refine oe (pV (fun _=>SH)) ?_;obtain⟨y13,qK,hM⟩:=bind_some hM;refine cv (fun hs=>ajT _ _ c11 y13 qK (aM hs)) ?_;refine oe iC ?_;refine oc hM (fun rZ hM=>?_) (fun rZ hM=>?_)
    ·refine sr ?_;refine oa ?_;refine aN ?_;refine rn Word 108 (fun _=>()) ?_;obtain rfl:=some_inj hM;refine aF (qZ (fun w hm=>bR Je hm rfl))
    refine cs fH ?_;refine go ?_;obtain⟨acu,hM⟩:=bQ hM;refine bY rfl (pW (hr:=fun hg=>dU (yJ acu hg))) ?_;obtain⟨c18,apo,hM⟩:=bind_some hM;refine bY rfl (pV (cu apo)) ?_;obtain⟨y20,yO,hM⟩:=bind_some hM;refine cg rfl (fun hg hs=>ajT _ _ c18 y20 (cu yO hg) (aM hs)) ?_;refine oe rR ?_;refine oc hM (fun hc22 hM=>?_) (fun hc22 hM=>?_)
    ·refine aR ?_;refine oe jq ?_;refine oN hM fun hM=>?_;refine aN ?_;refine kZ [] 15 ?_;refine zm 0 ?_;refine zm 1 ?_;refine zm 2 ?_;refine zm 3 ?_;refine LB 4 3 0 (Kn.aj (e:=108) (r:=Em) hA) hM fun x24 hx25 hM=>?_;refine zm 7 ?_;refine zm 8 ?_;refine zm 9 ?_;obtain⟨Sc,hM⟩:=bQ hM;refine aI 10 rfl (dP (hr:=fun hg=>dU Sc)) ?_;obtain⟨UZ,ada,hM⟩:=bind_some hM;refine aI 11 rfl (vZ (ol:=some (.i64,(aH:Int))) (oh:=some (.i64,((aH:Int)+1))) (fun _=>ada)) ?_;obtain⟨Jp,adb,hM⟩:=bind_some hM;refine aI 12 rfl (eB (fun _=>adb)) ?_;obtain⟨x31,hx32,hM⟩:=bind_some hM;refine aI 13 rfl (dL 3 (Kn.aj (e:=108) (r:=Em) hA) (iS hx32)) ?_;refine aI 14 rfl (aY 0) ?_;refine iX rfl (Nf (r:=Em) (i:=((sH.length:Int)-1)) (xs:=sH) (u:=x31) (vs:=[.string Jp.ba]) 0 (Word.mk Jp x31.Line x31.Col) hx32 rfl (fun _ _ h=>h) uA ?_);have IY:=Gn (u:=(Word.mk Jp x31.Line x31.Col)) hx32;refine iW (hJ2 Em hM ⟨(by simp only[List.length_set,eS,sL];rfl),rfl,rfl,rfl,trivial⟩ rI)
    refine bg ?_;refine go ?_;refine oP hM fun hM=>?_;obtain⟨U0,aqy,hM⟩:=bind_some hM;refine oe (vZ (ol:=some (.i64,(aH:Int))) (oh:=some (.i64,((aH:Int)+1))) (fun _=>aqy)) ?_;refine om ?_;refine om ?_;refine oP hM fun hM=>?_;refine oe (dO [.string U0.ba,vI eD,vI ((aH:Int)+1)]) ?_;refine bf (fI (α:=Word) 108 (fun _=>()) ([(Word.mk U0 eD ((aH:Int)+1))]:List Word) oF (fun Fa=>?_));obtain⟨Sv,hM⟩:=bQ hM;refine bf (iq (r:=Em) (r2:=Fa) uR (Kn.aj (e:=108) (r:=Fa) hA) oF (of_decide_eq_true Sv) (fun U3=>?_));refine oa ?_;refine bq (hJ2 U3 hM sS rI)
  clear hM;rintro OM Wm hM;dsimp only[Jz,cA,nA] at hM ⊢;refine bg ?_;refine om ?_;refine oP hM fun hM=>?_;refine oa ?_;refine bq (hL1 Wm hM sS rI)
 refine cx hK3 ?_;dsimp only[ZW] at hM;refine au fun yu mX=>?_;refine go ?_;refine co hM (fun Ci hM=>?_) (fun Ci hM=>?_)
 ·refine sr ?_;refine oa ?_;refine aN ?_;refine rn Word 108 (fun _=>()) ?_;obtain rfl:=some_inj hM;refine aF (qZ (fun w hm=>bR Je hm rfl))
 refine cs mX ?_;refine aR ?_;refine oa ?_;refine aN ?_;obtain rfl:=some_inj hM;refine aF (qZ (fun w hm=>bR Em hm rfl))
def aeP(uE:Nat)(aK:((List (List Word))×Nat×Int)→Option ((List (List Word))×Int×Int))(Jc:List (List Word))(sD:Int):Unit→Option ((List (List Word))×Int×Int):=fun _=>
 aO (aX ((uE:Int)+1))<|
 aK (Jc,uE+1,(sD+1))
def PX(sD:Int)(uE:Nat)(aK:((List (List Word))×Nat×Int)→Option ((List (List Word))×Int×Int)):(List (List Word))→Option ((List (List Word))×Int×Int):=fun Jc=>
 aO (aX (sD+1))<|
 aeP uE aK Jc sD ()
def ZQ(jK:Str)(aH:Int)(sD:Int)(uE:Nat)(kV:List (List Word))(aK:((List (List Word))×Nat×Int)→Option ((List (List Word))×Int×Int)):Unit→Option ((List (List Word))×Int×Int):=fun _=>
 (ji jK aH sD).bind fun q9=>
 (Vv q9 (uE:Int)).bind fun dR=>
 if decide (dR.2≠0) then
  (some (([]:List (List Word)),(uE:Int),dR.2))
 else
  (if decide (0<(dR.1.length:Int)) then
   (aO (decide ((kV.length+([dR.1]:List (List Word)).length)*24≤140737488355328))<|
   PX sD uE aK (kV++([dR.1]:List (List Word))))
  else
   (PX sD uE aK kV))
def Vm(jK:Str)(aH:Int)(uE:Nat)(kV:List (List Word))(aK:((List (List Word))×Nat×Int)→Option ((List (List Word))×Int×Int))(eU:Int→Option ((List (List Word))×Int×Int)):Int→Option ((List (List Word))×Int×Int):=fun sD=>
 (dH (decide (sD<(jK.l.length:Int))) 0 (kD jK sD)).bind fun c5=>
 if (decide (sD<(jK.l.length:Int))&&decide (c5≠10)) then
  (aO (aX (sD+1))<|
  eU (sD+1))
 else
  (ZQ jK aH sD uE kV aK ())
def ajJ(kV:List (List Word)):Unit→Option ((List (List Word))×Int×Int):=fun _=>
 some (kV,0,0)
def PW(jK:Str)(aK:((List (List Word))×Nat×Int)→Option ((List (List Word))×Int×Int)):((List (List Word))×Nat×Int)→Option ((List (List Word))×Int×Int):=fun (kV,uE,aH)=>
 if decide (aH<(jK.l.length:Int)) then
  (iter (Vm jK aH uE kV aK) FUEL aH)
 else
  (ajJ kV ())
def PY(jK:Str):Option ((List (List Word))×Int×Int):=
 if decide (65536<(jK.l.length:Int)) then
  (some (([]:List (List Word)),0,7))
 else
  (iter (PW jK) FUEL (([]:List (List Word)),1,0))
theorem ajK(S:aW)(w:World)(jK:Str)(y:(List (List Word))×Int×Int)(hM:PY jK=some y)(hS:sB S w):
   Calls Tryz.prog 70 #[.string jK.ba] w (Post (β:=(ah.R (List (List Word)))) S [] (fun g=> .tuple #[sL g y.1,vI y.2.1,vI y.2.2]) (fun g=>[aj 105 g y.1]) w):=by
 refine bF (args:=[_]) Tryz.func70 rfl ((pre_nil hS).start) rfl ?_;unfold PY at hM;refine go ?_;refine au fun K2 hK2=>?_;refine go ?_;refine co hM (fun hc1 hM=>?_) (fun hc1 hM=>?_)
 ·refine go ?_;refine iP (fun w hm=>hm.sN (α:=List Word) 105 (fun _=>Je)) ?_;obtain rfl:=some_inj hM;refine aF (qp (fun w hm=>bR aeg hm rfl))
 refine cs hK2 ?_;refine aJ ?_;refine aJ ?_;refine au fun K7 gu=>?_;refine aJ ?_;refine bI ?_;refine iP (fun w hm=>hm.sN (α:=List Word) 105 (fun _=>Je)) ?_;refine lr aeg hM [0] (fun (kV,uE,aH) sM=>[(5,eS sM kV),(6,eI (uE:Int)),(7,eI aH)]) [0] (fun (kV,uE,aH) sM=>[aj 105 sM kV]) ?_;clear hM;rintro aK ⟨kV,uE,aH⟩ sM hM eO hL1;dsimp only[PW,cA,nA] at hM ⊢;refine au fun K9 fH=>?_;refine go ?_;refine co hM (fun hc4 hM=>?_) (fun hc4 hM=>?_)
 ·refine cs fH ?_;refine au fun nG gH=>?_;refine bI ?_;refine aR ?_;refine aN ?_;refine au fun zA nR=>?_;refine bI ?_;refine lk hM [0,5,6,7] (fun sD=>[(8,eI sD)]) [] (fun sD=>[]) ?_;clear hM;rintro eU sD hM xA hL2;dsimp only[Vm,cA,nA] at hM ⊢;refine au fun yu mX=>?_;refine go ?_;obtain⟨c5,acW,hM⟩:=bind_some hM;refine bY rfl (pV (cu acW)) ?_;refine go ?_;refine co hM (fun jr hM=>?_) (fun jr hM=>?_)
  · refine cs mX ?_;refine bI ?_;refine bg ?_;refine om ?_;refine oP hM fun hM=>?_;refine oa ?_;refine bq (hL2 hM sS rI)
  refine cx nR ?_;dsimp only[ZQ] at hM;refine aR ?_;refine om ?_;refine om ?_;obtain⟨q9,Lj,hM⟩:=bind_some hM;refine oe (vZ (ol:=some (.i64,aH)) (oh:=some (.i64,sD)) (fun _=>Lj)) ?_;refine om ?_;obtain⟨dR,uy,hM⟩:=bind_some hM;refine bf (fu iO.nil (fun S w hs hP=>auK _ w q9 (uE:Int) dR uy (aM hs)) fG (fun wU=>?_));dsimp only[cA,nA];refine om ?_;refine oe (bU (vs:=[sL wU dR.1,vI dR.2])) ?_;refine oe (bU (vs:=[sL wU dR.1,vI dR.2])) ?_;refine oa ?_;refine aN ?_;refine au fun Rb Dx=>?_;refine aR ?_;refine oe nQ ?_;refine oc hM (fun yM hM=>?_) (fun yM hM=>?_)
  · refine go ?_;refine iP (fun w hm=>hm.sN (α:=List Word) 105 (fun _=>Je)) ?_;obtain rfl:=some_inj hM;refine aF (qp (fun w hm=>bR aeg hm rfl))
  refine cs Dx ?_;refine jk (SR (ah.R (List Word))) y (k:=PX sD uE aK) [0,6,8] (fun Jc Wo=>[(5,eS Wo Jc)]) [0,0] (fun Jc Wo=>[aj 105 Wo Jc]) ?_ ?_
  · intro Xq yK;refine go ?_;refine co hM (fun hc18 hM=>?_) (fun hc18 hM=>?_)
    ·refine bg ?_;refine om ?_;refine om ?_;refine z8 (fun w hm=>hm.freeze (r:=wU) uA) ?_;refine bf (fI (α:=List Word) 105 (fun _=>wU) ([dR.1]:List (List Word)) (jV.cons (fun S w hs=>(kI hs)) jV.nil) (fun rF=>?_));obtain⟨acL,hM⟩:=bQ hM;refine bf (iq (r:=sM) (r2:=rF) uR (Kn.aj (e:=105) (r:=rF) hA) (jV.row (e:=105) (r:=rF) hA) (of_decide_eq_true acL) (fun za=>?_));refine oa ?_;refine bq (yK za hM sS rI)
    refine gG (yK sM hM sS rI)
  clear hM;rintro Jc Wo hM;dsimp only[PX,cA,nA] at hM ⊢;refine bg ?_;refine om ?_;refine oP hM fun hM=>?_;refine oa ?_;refine bq (gH _ _ ?_);dsimp only[aeP] at hM;refine bg ?_;refine om ?_;refine oP hM fun hM=>?_;refine oa ?_;refine bq (hL1 Wo hM sS rI)
 refine cx gu ?_;dsimp only[ajJ] at hM;refine go ?_;obtain rfl:=some_inj hM;refine aF (qp (fun w hm=>bR sM hm rfl))
def aeR(gB:Int)(Es:Int):Unit→Option (Int×Bool):=fun _=>
 if decide (1099511627776<gB) then
  (some (0,false))
 else
  (aO (aX (Es*gB))<|
  some ((Es*gB),true))
def PZ(zl:Str)(Es:Int)(aK:(Int×Nat)→Option (Int×Bool)):(Int×Nat)→Option (Int×Bool):=fun (gB,aH)=>
 if decide ((aH:Int)<(zl.l.length:Int)) then
  ((kD zl (aH:Int)).bind fun c5=>
  (MN c5).bind fun y7=>
  if (!y7) then
   (some (0,false))
  else
   (aO (aX (10*gB))<|
   (kD zl (aH:Int)).bind fun c11=>
   aO (aX ((10*gB)+(IntKind.i64.wrap (IntKind.u8.wrap (c11-48)))))<|
   aO (aX ((aH:Int)+1))<|
   aK (((10*gB)+(IntKind.i64.wrap (IntKind.u8.wrap (c11-48)))),aH+1)))
 else
  (aeR gB Es ())
def P5:(Str×Int)→Option (Int×Bool):=fun (zl,Es)=>
 (dH (!(decide ((zl.l.length:Int)<1)||decide (13<(zl.l.length:Int)))) 0 (kD zl 0)).bind fun c1=>
 if ((decide ((zl.l.length:Int)<1)||decide (13<(zl.l.length:Int)))||(decide (c1=48)&&(decide (1<(zl.l.length:Int))||decide (Es<0)))) then
  (some (0,false))
 else
  (iter (PZ zl Es) FUEL (0,0))
def tT(s0:Str):Option (Int×Bool):=
 (dH (decide (0<(s0.l.length:Int))) 0 (kD s0 0)).bind fun c17=>
 if (decide (0<(s0.l.length:Int))&&decide (c17=45)) then
  ((ji s0 1 (s0.l.length:Int)).bind fun UY=>
  P5 (UY,(-1)))
 else
  (P5 (s0,1))
theorem yc(S:aW)(w:World)(s0:Str)(y:Int×Bool)(hM:tT s0=some y)(hS:sB S w):
   Calls Tryz.prog 171 #[.string s0.ba] w (bM w (.tuple #[vI y.1,.bool y.2])):=by
 refine bF (args:=[_]) Tryz.func171 rfl ((pre_nil hS).start) rfl ?_;unfold tT at hM;refine go ?_;refine jl y (k:=P5) [] (fun (zl,Es)=>[(4,.v (.string zl.ba)),(5,eI Es)]) [] (fun (zl,Es)=>[]) ?_ ?_
 ·intro rM dK;refine go ?_;obtain⟨c17,apn,hM⟩:=bind_some hM;refine bY rfl (pV (cu apn)) ?_;refine go ?_;refine co hM (fun hc19 hM=>?_) (fun hc19 hM=>?_)
  · refine bg ?_;refine om ?_;obtain⟨UY,ac9,hM⟩:=bind_some hM;refine oe (vZ (ol:=some (.i64,1)) (oh:=none) (fun _=>ac9)) ?_;refine oa ?_;refine oa ?_;refine bq (dK hM sS rI)
  refine gG (dK hM sS rI)
 clear hM;rintro⟨zl,Es⟩ hM;dsimp only[P5,cA,nA] at hM ⊢;refine au fun K3 hK3=>?_;refine go ?_;obtain⟨c1,SI,hM⟩:=bind_some hM;refine bY rfl (pV (cu SI)) ?_;refine go ?_;refine co hM (fun hc3 hM=>?_) (fun hc3 hM=>?_)
 ·refine sr ?_;refine oa ?_;refine aN ?_;exact aF (uS hM)
 refine cs hK3 ?_;refine aJ ?_;refine au fun K7 gu=>?_;refine aJ ?_;refine bI ?_;refine lk hM [4,5] (fun (gB,aH)=>[(6,eI gB),(7,eI (aH:Int))]) [] (fun (gB,aH)=>[]) ?_;clear hM;rintro aK ⟨gB,aH⟩ hM eO hL1;dsimp only[PZ,cA,nA] at hM ⊢;refine au fun K9 fH=>?_;refine go ?_;refine co hM (fun hc4 hM=>?_) (fun hc4 hM=>?_)
 ·refine cs fH ?_;refine au fun nG gH=>?_;refine bI ?_;refine au fun BZ pX=>?_;refine aR ?_;refine om ?_;obtain⟨c5,acW,hM⟩:=bind_some hM;refine oe (pV (fun _=>acW)) ?_;obtain⟨y7,DT,hM⟩:=bind_some hM;refine cv (fun hs=>ajP _ _ c5 y7 DT (aM hs)) ?_;refine oe iC ?_;refine oc hM (fun qY hM=>?_) (fun qY hM=>?_)
  · refine sr ?_;refine oa ?_;refine aN ?_;exact aF (uS hM)
  refine cs pX ?_;refine bg ?_;refine om ?_;obtain⟨anJ,hM⟩:=bQ hM;refine oe (vw (hr:=fun hg=>dU anJ)) ?_;refine om ?_;refine om ?_;obtain⟨c11,SH,hM⟩:=bind_some hM;refine oe (pV (fun _=>SH)) ?_;refine oe aha ?_;refine oe (IC .i64) ?_;refine oP hM fun hM=>?_;refine oa ?_;refine bq (gH _ _ ?_);refine bg ?_;refine om ?_;refine oP hM fun hM=>?_;refine oa ?_;refine bq (hL1 hM sS rI)
 refine cx gu ?_;dsimp only[aeR] at hM;refine au fun Dn qF=>?_;refine aR ?_;refine oe vY ?_;refine oc hM (fun rZ hM=>?_) (fun rZ hM=>?_)
 ·refine sr ?_;refine oa ?_;refine aN ?_;exact aF (uS hM)
 refine cs qF ?_;refine aR ?_;refine om ?_;obtain⟨anO,hM⟩:=bQ hM;refine oe (vw (hr:=fun hg=>dU anO)) ?_;refine oa ?_;refine aN ?_;exact aF (uS hM)
def ajO:Unit→Option Int:=fun _=>
 some (-1)
def ZR(l0:List Str)(s0:Str)(aK:Nat→Option Int):Nat→Option Int:=fun aH=>
 if decide ((aH:Int)<(l0.length:Int)) then
  ((idx l0 (aH:Int)).bind fun x2=>
  if decide (x2=s0) then
   (some (aH:Int))
  else
   (aO (aX ((aH:Int)+1))<|
   aK (aH+1)))
 else
  (ajO ())
def Fh(l0:List Str)(s0:Str):Option Int:=
 iter (ZR l0 s0) FUEL 0
theorem P6(S:aW)(w:World)(l0:List Str)(aD:ah.R (List Str))(s0:Str)(y:Int)(hM:Fh l0 s0=some y)(hS:sB S w)(dQ:ah.ok S w aD l0):
   Calls Tryz.prog 172 #[sL aD l0,.string s0.ba] w (bM w (vI y)):=by
 refine bF (args:=[_,_]) Tryz.func172 rfl ((pre_nil hS).start |>.bG dQ) rfl ?_;unfold Fh at hM;refine aJ ?_;refine au fun K2 hK2=>?_;refine aJ ?_;refine bI ?_;refine lk hM [0,1] (fun aH=>[(5,eI (aH:Int))]) [] (fun aH=>[]) ?_;clear hM;rintro aK aH hM eO hL1;dsimp only[ZR,cA,nA] at hM ⊢;refine au fun K4 hK4=>?_;refine go ?_;refine co hM (fun hc1 hM=>?_) (fun hc1 hM=>?_)
 ·refine cs hK4 ?_;refine au fun K6 dG=>?_;refine bI ?_;refine aR ?_;refine om ?_;refine zP 1 (kG l0 aD) hM fun x2 hx3 hM=>?_;refine om ?_;refine oe xI ?_;refine oc hM (fun hc4 hM=>?_) (fun hc4 hM=>?_)
  · refine aR ?_;refine aN ?_;exact aF (aZ hM)
  refine cs dG ?_;refine bg ?_;refine om ?_;refine oP hM fun hM=>?_;refine oa ?_;refine bq (hL1 hM sS rI)
 refine cx hK2 ?_;dsimp only[ajO] at hM;refine aJ ?_;exact aF (aZ hM)
def ZT(l0:Layout)(xk:Word)(y3:Int×Bool)(y7:Int×Bool)(dR:Int×Bool):Int→Option (Int×(List Section)):=fun M7=>
 aO (decide ((l0.Sections.length+([(Section.mk xk.Text y3.1 y7.1 dR.1 M7)]:List Section).length)*48≤140737488355328))<|
 some (0,(l0.Sections++([(Section.mk xk.Text y3.1 y7.1 dR.1 M7)]:List Section)))
def aeX(l0:Layout)(p1:List Word):Option (Int×(List Section)):=
 (idx p1 2).bind fun x1=>
 (tT x1.Text).bind fun y3=>
 (idx p1 3).bind fun x5=>
 (tT x5.Text).bind fun y7=>
 (idx p1 4).bind fun x9=>
 (tT x9.Text).bind fun dR=>
 (dH ((!(((!y3.2)||(!y7.2))||(!dR.2)))&&decide ((p1.length:Int)=7)) default (idx p1 5)).bind fun gK=>
 if ((((!y3.2)||(!y7.2))||(!dR.2))||(decide ((p1.length:Int)=7)&&(!decide (gK.Text=(⟨[97,116]⟩:Str))))) then
  (some (2,l0.Sections))
 else
  ((idx p1 1).bind fun xk=>
  if decide ((p1.length:Int)=7) then
   ((idx p1 6).bind fun x23=>
   (Fh l0.aT x23.Text).bind fun y25=>
   if decide (y25<0) then
    (some (3,l0.Sections))
   else
    (ZT l0 xk y3 y7 dR y25))
  else
   (ZT l0 xk y3 y7 dR (-1)))
theorem auH(S:aW)(w:World)(vU:Nat)(l0:Layout)(aD:ah.R Layout)(p1:List Word)(cZ:ah.R (List Word))(y:Int×(List Section))(hM:aeX l0 p1=some y)(hP:Pre S [own vU 26 (iR l0 aD),aj 9 aD.1 l0.aT,aj 9 aD.2.1 l0.bE,aj 81 aD.2.2.1 l0.Sections,aj 183 aD.2.2.2 l0.Links] w)(um:ah.ok S w cZ p1):
   Calls Tryz.prog 131 #[vP vU,sL cZ p1] w (Post (β:=(SR (ah.R Section))) S [own vU 26 (iR l0 aD),aj 9 aD.1 l0.aT,aj 9 aD.2.1 l0.bE,aj 81 aD.2.2.1 l0.Sections,aj 183 aD.2.2.2 l0.Links] (fun g=>vI y.1) (fun g=>[own vU 26 [sL aD.1 l0.aT,sL aD.2.1 l0.bE,sL g y.2,sL aD.2.2.2 l0.Links],aj 9 aD.1 l0.aT,aj 9 aD.2.1 l0.bE,aj 81 g y.2,aj 183 aD.2.2.2 l0.Links]) w):=by
 refine bF (args:=[_,_]) Tryz.func131 rfl (hP.start |>.bG um) rfl ?_;unfold aeX at hM;refine aJ ?_;refine aR ?_;refine ix 3 0 (kG p1 cZ) hM fun x1 hx2 hM=>?_;obtain⟨y3,hy4,hM⟩:=bind_some hM;refine cv (fun hs=>yc _ _ x1.Text y3 hy4 (aM hs)) ?_;refine om ?_;refine oe (bU (vs:=[vI y3.1,.bool y3.2])) ?_;refine oe (bU (vs:=[vI y3.1,.bool y3.2])) ?_;refine oa ?_;refine aN ?_;refine aR ?_;refine ix 3 0 (kG p1 cZ) hM fun x5 hx6 hM=>?_;obtain⟨y7,DT,hM⟩:=bind_some hM;refine cv (fun hs=>yc _ _ x5.Text y7 DT (aM hs)) ?_;refine om ?_;refine oe (bU (vs:=[vI y7.1,.bool y7.2])) ?_;refine oe (bU (vs:=[vI y7.1,.bool y7.2])) ?_;refine oa ?_;refine aN ?_;refine aR ?_;refine ix 3 0 (kG p1 cZ) hM fun x9 sj hM=>?_;obtain⟨dR,uy,hM⟩:=bind_some hM;refine cv (fun hs=>yc _ _ x9.Text dR uy (aM hs)) ?_;refine om ?_;refine oe (bU (vs:=[vI dR.1,.bool dR.2])) ?_;refine oe (bU (vs:=[vI dR.1,.bool dR.2])) ?_;refine oa ?_;refine aN ?_;refine au fun K5 dx=>?_;refine go ?_;obtain⟨gK,uw,hM⟩:=bind_some hM;refine bY rfl (dL 3 (kG p1 cZ) (fun hg=>let h:=jX (cu uw hg);⟨h.1,h.2.1⟩)) ?_;refine bY rfl (aY 0) ?_;refine bY rfl (dY 0 (kG p1 cZ) (fun hg=>cu uw hg)) ?_;refine go ?_;refine co hM (fun rZ hM=>?_) (fun rZ hM=>?_)
 ·refine aJ ?_;obtain rfl:=some_inj hM;refine aF (eG (fun w hm=>bR aD.2.2.1 hm rfl))
 refine cs dx ?_;refine aR ?_;refine ix 3 0 (kG p1 cZ) hM fun xk S9 hM=>?_;refine om ?_;refine om ?_;refine om ?_;refine oe (dO [.string xk.Text.ba,vI y3.1,vI y7.1,vI dR.1,vI (-1)]) ?_;refine oA rfl fun b18=>?_;refine oS b18 [.string xk.Text.ba,vI y3.1,vI y7.1,vI dR.1,vI (-1)] ?_;refine on ?_;refine jl y (k:=ZT l0 xk y3 y7 dR) [0,11] (fun M7=>[]) [0,0] (fun M7=>[own b18 81 [.string xk.Text.ba,vI y3.1,vI y7.1,vI dR.1,vI M7]]) ?_ ?_
 ·intro rM dK;refine go ?_;refine co hM (fun hc22 hM=>?_) (fun hc22 hM=>?_)
  · refine au fun BZ pX=>?_;refine kZ [] 10 ?_;refine zm 0 ?_;refine aI 1 rfl dF ?_;refine fz 2 0 ?_;refine zm 4 ?_;refine LB 5 3 0 (kG p1 cZ) hM fun x23 hx24 hM=>?_;obtain⟨y25,yP,hM⟩:=bind_some hM;refine cK 8 rfl (sV (fun hs=>P6 _ _ l0.aT aD.1 x23.Text y25 yP (aM hs) (kT hs)) ⟨rI,?_⟩);refine aI 9 rfl (aY 4) ?_;refine iX rfl (sO ?_);refine iW (pX _ _ ?_);refine go ?_;refine co hM (fun hc27 hM=>?_) (fun hc27 hM=>?_)
    ·refine aJ ?_;obtain rfl:=some_inj hM;refine aF (eG (fun w hm=>bR aD.2.2.1 hm rfl))
    refine gG (dK hM sS rI)
  refine gG (dK hM sS rI)
 clear hM;rintro M7 hM;dsimp only[ZT,cA,nA] at hM ⊢;refine au fun K9 fH=>?_;refine kZ [4] 10 ?_;refine zm 0 ?_;refine zm 1 ?_;refine aI 2 rfl dF ?_;refine fz 3 2 ?_;refine aI 5 rfl fC ?_;refine cK 6 rfl (fI (α:=Section) 81 (fun _=>()) ([(Section.mk xk.Text y3.1 y7.1 dR.1 M7)]:List Section) oF (fun rF=>⟨rI,?_⟩));obtain⟨acL,hM⟩:=bQ hM;refine cK 7 rfl (iq (r:=aD.2.2.1) (r2:=rF) uR (Kn.aj (e:=81) (r:=rF) hA) oF (of_decide_eq_true acL) (fun za=>⟨rI,?_⟩));refine aI 8 rfl dF ?_;refine aI 9 rfl (aY 2) ?_;refine iX rfl (sO ?_);refine iW (fH _ _ ?_);refine aJ ?_;obtain rfl:=some_inj hM;refine aF (eG (fun w hm=>bR za hm rfl))
def ZU(s0:Str):Option Int:=
 if decide (s0=(⟨[65]⟩:Str)) then
  (some 0)
 else
  (if decide (s0=(⟨[66]⟩:Str)) then
   (some 1)
  else
   (some (-1)))
theorem Vq(S:aW)(w:World)(s0:Str)(y:Int)(hM:ZU s0=some y)(hS:sB S w):
   Calls Tryz.prog 173 #[.string s0.ba] w (bM w (vI y)):=by
 refine bF (args:=[_]) Tryz.func173 rfl ((pre_nil hS).start) rfl ?_;unfold ZU at hM;refine aJ ?_;refine au fun K2 hK2=>?_;refine go ?_;refine co hM (fun hc1 hM=>?_) (fun hc1 hM=>?_)
 ·refine aJ ?_;exact aF (aZ hM)
 refine go ?_;refine co hM (fun hc2 hM=>?_) (fun hc2 hM=>?_)
 ·refine aJ ?_;exact aF (aZ hM)
 refine cs hK2 ?_;refine aJ ?_;exact aF (aZ hM)
def Vo(l0:Layout)(y13:Int)(vD:Int)(mq:Int)(vE:Int):(Int×Int)→Option (Int×(List Link)):=fun (LD,LG)=>
 aO (decide ((l0.Links.length+([(Link.mk y13 vD mq vE LD LG)]:List Link).length)*48≤140737488355328))<|
 some (0,(l0.Links++([(Link.mk y13 vD mq vE LD LG)]:List Link)))
def aeV(p1:List Word)(l0:Layout):(Int×Int)→Option (Int×(List Link)):=fun (vD,vE)=>
 (dH ((!(decide (vD<0)||decide (vE<0)))&&decide ((p1.length:Int)=7)) default (idx p1 6)).bind fun x1=>
 (dH ((!(decide (vD<0)||decide (vE<0)))&&(decide ((p1.length:Int)=7)&&(!decide (x1.Text=(⟨[48]⟩:Str))))) default (idx p1 6)).bind fun x3=>
 if ((decide (vD<0)||decide (vE<0))||((decide ((p1.length:Int)=7)&&(!decide (x1.Text=(⟨[48]⟩:Str))))&&(!decide (x3.Text=(⟨[49]⟩:Str))))) then
  (some (2,l0.Links))
 else
  ((Qc l0).bind fun y6=>
  (idx p1 1).bind fun x9=>
  (idx p1 3).bind fun ow=>
  (Fh y6 x9.Text).bind fun y13=>
  (Fh y6 ow.Text).bind fun mq=>
  if (decide (y13<0)||decide (mq<0)) then
   (some (3,l0.Links))
  else
   (if decide ((p1.length:Int)=7) then
    ((idx p1 5).bind fun nC=>
    (Fh l0.bE nC.Text).bind fun y24=>
    if decide (y24<0) then
     (some (3,l0.Links))
    else
     ((idx p1 6).bind fun x27=>
     if decide (x27.Text=(⟨[49]⟩:Str)) then
      (Vo l0 y13 vD mq vE (y24,1))
     else
      (Vo l0 y13 vD mq vE (y24,0))))
   else
    (Vo l0 y13 vD mq vE ((-1),0))))
def aeW(l0:Layout)(p1:List Word):Option (Int×(List Link)):=
 (idx p1 2).bind fun x30=>
 (idx p1 4).bind fun x32=>
 (ZU x30.Text).bind fun y34=>
 (ZU x32.Text).bind fun BU=>
 aeV p1 l0 (y34,BU)
theorem auG(S:aW)(w:World)(vU:Nat)(l0:Layout)(aD:ah.R Layout)(p1:List Word)(cZ:ah.R (List Word))(y:Int×(List Link))(hM:aeW l0 p1=some y)(hP:Pre S [own vU 26 (iR l0 aD),aj 9 aD.1 l0.aT,aj 9 aD.2.1 l0.bE,aj 81 aD.2.2.1 l0.Sections,aj 183 aD.2.2.2 l0.Links] w)(um:ah.ok S w cZ p1):
   Calls Tryz.prog 132 #[vP vU,sL cZ p1] w (Post (β:=(SR (ah.R Link))) S [own vU 26 (iR l0 aD),aj 9 aD.1 l0.aT,aj 9 aD.2.1 l0.bE,aj 81 aD.2.2.1 l0.Sections,aj 183 aD.2.2.2 l0.Links] (fun g=>vI y.1) (fun g=>[own vU 26 [sL aD.1 l0.aT,sL aD.2.1 l0.bE,sL aD.2.2.1 l0.Sections,sL g y.2],aj 9 aD.1 l0.aT,aj 9 aD.2.1 l0.bE,aj 81 aD.2.2.1 l0.Sections,aj 183 g y.2]) w):=by
 refine bF (args:=[_,_]) Tryz.func132 rfl (hP.start |>.bG um) rfl ?_;unfold aeW at hM;refine aJ ?_;refine jk Nat y (k:=aeV p1 l0) [0,1] (fun (vD,vE) KJ=>[(5,eP KJ)]) [] (fun (vD,vE) KJ=>[own KJ 183 [vI 0,vI vD,vI 0,vI vE,vI (-1),vI 0]]) ?_ ?_
 ·intro rM dK;refine dS _ (List.Sublist.refl _) ?_;refine am 0 ?_;refine iQ 1 3 0 (kG p1 cZ) hM fun x30 hx31 hM=>?_;refine am 5 ?_;refine iQ 6 3 0 (kG p1 cZ) hM fun x32 IY hM=>?_;obtain⟨y34,Cm,hM⟩:=bind_some hM;refine jA 4 11 (⟨_,rfl,rfl,jh (fun w hm=>let ⟨S,hs⟩:=hm;Vq _ w x30.Text y34 Cm (aM hs)) ⟨rI,?_⟩⟩) (⟨_,rfl,rfl,gU rfl (k:=fun Rp=>⟨rI,?_⟩)⟩)
  · obtain⟨BU,hy38,hM⟩:=bind_some hM;refine jA 9 11 (⟨_,rfl,rfl,jh (fun w hm=>let ⟨S,hs⟩:=hm;Vq _ w x32.Text BU hy38 (aM hs)) ⟨rI,?_⟩⟩) (⟨_,rfl,rfl,gU rfl (k:=fun Ik=>⟨rI,?_⟩)⟩)
    ·refine ay 10 rfl (dO [vI 0,vI y34,vI 0,vI BU,vI (-1),vI 0]) ?_;refine aA 11 rfl rfl fun ED=>?_;refine aS 12 rfl ED [vI 0,vI y34,vI 0,vI BU,vI (-1),vI 0] ?_;refine bS (dK ED hM sS rI)
    refine bT 9 rfl (sV (fun hs=>Vq _ _ x32.Text BU hy38 (aM hs)) ⟨rI,?_⟩);refine ay 10 rfl (dO [vI 0,vI y34,vI 0,vI BU,vI (-1),vI 0]) ?_;refine aS 12 rfl Ik [vI 0,vI y34,vI 0,vI BU,vI (-1),vI 0] ?_;refine bS (dK Ik hM sS rI)
  refine bT 4 rfl (sV (fun hs=>Vq _ _ x30.Text y34 Cm (aM hs)) ⟨rI,?_⟩);obtain⟨y41,arp,hM⟩:=bind_some hM;refine bT 9 rfl (sV (fun hs=>Vq _ _ x32.Text y41 arp (aM hs)) ⟨rI,?_⟩);refine ay 10 rfl (dO [vI 0,vI y34,vI 0,vI y41,vI (-1),vI 0]) ?_;refine aS 12 rfl Rp [vI 0,vI y34,vI 0,vI y41,vI (-1),vI 0] ?_;refine bS (dK Rp hM sS rI)
 clear hM;rintro⟨vD,vE⟩ KJ hM;dsimp only[aeV,cA,nA] at hM ⊢;refine au fun K2 hK2=>?_;refine go ?_;obtain⟨x1,hx2,hM⟩:=bind_some hM;refine bY rfl (dL 3 (kG p1 cZ) (fun hg=>let h:=jX (cu hx2 hg);⟨h.1,h.2.1⟩)) ?_;refine bY rfl (aY 0) ?_;refine bY rfl (dY 0 (kG p1 cZ) (fun hg=>cu hx2 hg)) ?_;refine go ?_;obtain⟨x3,hx4,hM⟩:=bind_some hM;refine bY rfl (dL 3 (kG p1 cZ) (fun hg=>let h:=jX (cu hx4 hg);⟨h.1,h.2.1⟩)) ?_;refine bY rfl (aY 0) ?_;refine bY rfl (dY 0 (kG p1 cZ) (fun hg=>cu hx4 hg)) ?_;refine go ?_;refine co hM (fun iH hM=>?_) (fun iH hM=>?_)
 ·refine aJ ?_;obtain rfl:=some_inj hM;refine aF (eG (fun w hm=>bR aD.2.2.2 hm rfl))
 refine cs hK2 ?_;refine go ?_;obtain⟨y6,nS,hM⟩:=bind_some hM;refine bf (fu iO.nil (fun S w hs hP=>ajU _ w l0 aD y6 nS (aM hs) ⟨(kT hs),(kT hs),(kT hs),(kT hs)⟩) fG (fun r8=>?_));dsimp only[cA,nA];refine aN ?_;refine au fun K6 dG=>?_;refine dS [aj 9 r8 y6,iL p1 cZ,own vU 26 (iR l0 aD),aj 9 aD.1 l0.aT,aj 9 aD.2.1 l0.bE,aj 81 aD.2.2.1 l0.Sections,aj 183 aD.2.2.2 l0.Links] (by repeat (first|exact List.Sublist.refl _|apply List.Sublist.cons_cons|apply List.Sublist.cons)) ?_;refine am 0 ?_;refine am 1 ?_;refine iQ 2 3 0 (kG p1 cZ) hM fun x9 sj hM=>?_;refine am 6 ?_;refine am 7 ?_;obtain⟨ow,IX,hM⟩:=bind_some hM;refine ay 8 rfl (dL 3 (kG p1 cZ) (iS IX)) ?_;refine ay 9 rfl (aY 0) ?_;refine ay 10 rfl (dY 0 (kG p1 cZ) (fun _=>IX)) ?_;obtain⟨y13,qK,hM⟩:=bind_some hM;refine bT 5 rfl (sV (fun hs=>P6 _ _ y6 r8 x9.Text y13 qK (aM hs) (kT hs)) ⟨rI,?_⟩);refine ay 12 rfl (aY 0) ?_;obtain⟨mq,I4,hM⟩:=bind_some hM;refine bT 11 rfl (sV (fun hs=>P6 _ _ y6 r8 ow.Text mq I4 (aM hs) (kT hs)) ⟨rI,?_⟩);refine bT 13 rfl (QL (b:=KJ) (l':=[vI y13,vI vD,vI 0,vI vE,vI (-1),vI 0]) (k:=⟨rI,?_⟩));refine ay 14 rfl (aY 2) ?_;refine bT 15 rfl (QL (b:=KJ) (l':=[vI y13,vI vD,vI mq,vI vE,vI (-1),vI 0]) (k:=⟨rI,?_⟩));refine bS (dG _ _ ?_);refine au fun K7 gu=>?_;refine go ?_;refine co hM (fun hc17 hM=>?_) (fun hc17 hM=>?_)
 ·refine aJ ?_;obtain rfl:=some_inj hM;refine aF (eG (fun w hm=>bR aD.2.2.2 hm rfl))
 refine cs gu ?_;refine jl y (k:=Vo l0 y13 vD mq vE) [0,5] (fun (LD,LG)=>[]) [0,0,0] (fun (LD,LG)=>[own KJ 183 [vI y13,vI vD,vI mq,vI vE,vI LD,vI LG]]) ?_ ?_
 ·intro zB hJ2;refine go ?_;refine co hM (fun hc21 hM=>?_) (fun hc21 hM=>?_)
  · refine au fun zA nR=>?_;refine kZ [] 10 ?_;refine zm 0 ?_;refine aI 1 rfl dF ?_;refine fz 2 1 ?_;refine zm 4 ?_;refine LB 5 3 0 (kG p1 cZ) hM fun nC YK hM=>?_;obtain⟨y24,hy25,hM⟩:=bind_some hM;refine cK 8 rfl (sV (fun hs=>P6 _ _ l0.bE aD.2.1 nC.Text y24 hy25 (aM hs) (kT hs)) ⟨rI,?_⟩);refine aI 9 rfl (aY 4) ?_;refine iX rfl (sO ?_);refine iW (nR _ _ ?_);refine au fun yu mX=>?_;refine go ?_;refine co hM (fun NZ hM=>?_) (fun NZ hM=>?_)
    ·refine aJ ?_;obtain rfl:=some_inj hM;refine aF (eG (fun w hm=>bR aD.2.2.2 hm rfl))
    refine cs mX ?_;refine aR ?_;refine ix 3 0 (kG p1 cZ) hM fun x27 hx28 hM=>?_;refine oe xI ?_;refine oc hM (fun hc29 hM=>?_) (fun hc29 hM=>?_)
    ·refine bg ?_;refine oe (aY 5) ?_;refine kY ?_;refine bq (hJ2 hM sS rI)
    refine gG (hJ2 hM sS rI)
  refine gG (hJ2 hM sS rI)
 clear hM;rintro⟨LD,LG⟩ hM;dsimp only[Vo,cA,nA] at hM ⊢;refine au fun tC jC=>?_;refine kZ [5] 10 ?_;refine zm 0 ?_;refine zm 1 ?_;refine aI 2 rfl dF ?_;refine fz 3 3 ?_;refine aI 5 rfl fC ?_;refine cK 6 rfl (fI (α:=Link) 183 (fun _=>()) ([(Link.mk y13 vD mq vE LD LG)]:List Link) oF (fun yZ=>⟨rI,?_⟩));obtain⟨aoD,hM⟩:=bQ hM;refine cK 7 rfl (iq (r:=aD.2.2.2) (r2:=yZ) uR (Kn.aj (e:=183) (r:=yZ) hA) oF (of_decide_eq_true aoD) (fun rF=>⟨rI,?_⟩));refine aI 8 rfl dF ?_;refine aI 9 rfl (aY 3) ?_;refine iX rfl (sO ?_);refine iW (jC _ _ ?_);refine aJ ?_;obtain rfl:=some_inj hM;refine aF (eG (fun w hm=>bR rF hm rfl))
def aeY(l0:Layout)(p1:List Word):Option (Int×(List Str)×(List Str)×(List Section)×(List Link)):=
 (dH (decide ((p1.length:Int)=2)) default (idx p1 0)).bind fun x1=>
 if (decide ((p1.length:Int)=2)&&decide (x1.Text=(⟨[115,116,97,116,105,111,110]⟩:Str))) then
  ((idx p1 1).bind fun x4=>
  aO (decide ((l0.aT.length+([x4.Text]:List Str).length)*16≤140737488355328))<|
  some (0,(l0.aT++([x4.Text]:List Str)),l0.bE,l0.Sections,l0.Links))
 else
  ((dH (decide ((p1.length:Int)=2)) default (idx p1 0)).bind fun x9=>
  if (decide ((p1.length:Int)=2)&&decide (x9.Text=(⟨[112,111,105,110,116]⟩:Str))) then
   ((idx p1 1).bind fun lS=>
   aO (decide ((l0.bE.length+([lS.Text]:List Str).length)*16≤140737488355328))<|
   some (0,l0.aT,(l0.bE++([lS.Text]:List Str)),l0.Sections,l0.Links))
  else
   ((dH (decide ((p1.length:Int)=5)||decide ((p1.length:Int)=7)) default (idx p1 0)).bind fun kr=>
   if ((decide ((p1.length:Int)=5)||decide ((p1.length:Int)=7))&&decide (kr.Text=(⟨[115,101,99,116,105,111,110]⟩:Str))) then
    ((aeX l0 p1).bind fun y20=>
    some (y20.1,l0.aT,l0.bE,y20.2,l0.Links))
   else
    ((dH (decide ((p1.length:Int)=5)||decide ((p1.length:Int)=7)) default (idx p1 0)).bind fun x23=>
    if ((decide ((p1.length:Int)=5)||decide ((p1.length:Int)=7))&&decide (x23.Text=(⟨[108,105,110,107]⟩:Str))) then
     ((aeW l0 p1).bind fun mW=>
     some (mW.1,l0.aT,l0.bE,l0.Sections,mW.2))
    else
     (some (2,l0.aT,l0.bE,l0.Sections,l0.Links)))))
theorem auI(S:aW)(w:World)(vU:Nat)(l0:Layout)(aD:ah.R Layout)(p1:List Word)(cZ:ah.R (List Word))(y:Int×(List Str)×(List Str)×(List Section)×(List Link))(hM:aeY l0 p1=some y)(hP:Pre S [own vU 26 (iR l0 aD),aj 9 aD.1 l0.aT,aj 9 aD.2.1 l0.bE,aj 81 aD.2.2.1 l0.Sections,aj 183 aD.2.2.2 l0.Links] w)(um:ah.ok S w cZ p1):
   Calls Tryz.prog 71 #[vP vU,sL cZ p1] w (Post (β:=(SR (ah.R Str))×(SR (ah.R Str))×(SR (ah.R Section))×(SR (ah.R Link))) S [own vU 26 (iR l0 aD),aj 9 aD.1 l0.aT,aj 9 aD.2.1 l0.bE,aj 81 aD.2.2.1 l0.Sections,aj 183 aD.2.2.2 l0.Links] (fun g=>vI y.1) (fun g=>[own vU 26 [sL g.1 y.2.1,sL g.2.1 y.2.2.1,sL g.2.2.1 y.2.2.2.1,sL g.2.2.2 y.2.2.2.2],aj 9 g.1 y.2.1,aj 9 g.2.1 y.2.2.1,aj 81 g.2.2.1 y.2.2.2.1,aj 183 g.2.2.2 y.2.2.2.2]) w):=by
 refine bF (args:=[_,_]) Tryz.func71 rfl (hP.start |>.bG um) rfl ?_;unfold aeY at hM;refine aJ ?_;refine au fun K2 hK2=>?_;refine go ?_;obtain⟨x1,hx2,hM⟩:=bind_some hM;refine bY rfl (dL 3 (kG p1 cZ) (fun hg=>let h:=jX (cu hx2 hg);⟨h.1,h.2.1⟩)) ?_;refine bY rfl (aY 0) ?_;refine bY rfl (dY 0 (kG p1 cZ) (fun hg=>cu hx2 hg)) ?_;refine go ?_;refine co hM (fun hc3 hM=>?_) (fun hc3 hM=>?_)
 ·refine au fun K4 hK4=>?_;refine kZ [2] 13 ?_;refine zm 0 ?_;refine zm 1 ?_;refine aI 2 rfl dF ?_;refine fz 3 0 ?_;refine zm 5 ?_;refine LB 6 3 0 (kG p1 cZ) hM fun x4 hx5 hM=>?_;refine cK 9 rfl (fI (α:=Str) 9 (fun _=>()) ([x4.Text]:List Str) oF (fun r6=>⟨rI,?_⟩));obtain⟨hb8,hM⟩:=bQ hM;refine cK 10 rfl (iq (r:=aD.1) (r2:=r6) uR (Kn.aj (e:=9) (r:=r6) hA) oF (of_decide_eq_true hb8) (fun r7=>⟨rI,?_⟩));refine aI 11 rfl dF ?_;refine aI 12 rfl (aY 0) ?_;refine iX rfl (sO ?_);refine iW (hK4 _ _ ?_);refine aJ ?_;obtain rfl:=some_inj hM;refine aF (eG (fun w hm=>bR (r7,aD.2.1,aD.2.2.1,aD.2.2.2) hm rfl))
 refine go ?_;obtain⟨x9,sj,hM⟩:=bind_some hM;refine bY rfl (dL 3 (kG p1 cZ) (fun hg=>let h:=jX (cu sj hg);⟨h.1,h.2.1⟩)) ?_;refine bY rfl (aY 0) ?_;refine bY rfl (dY 0 (kG p1 cZ) (fun hg=>cu sj hg)) ?_;refine go ?_;refine co hM (fun rY hM=>?_) (fun rY hM=>?_)
 ·refine au fun K7 gu=>?_;refine kZ [3] 13 ?_;refine zm 0 ?_;refine zm 1 ?_;refine aI 2 rfl dF ?_;refine fz 3 1 ?_;refine zm 5 ?_;refine LB 6 3 0 (kG p1 cZ) hM fun lS SY hM=>?_;refine cK 9 rfl (fI (α:=Str) 9 (fun _=>()) ([lS.Text]:List Str) oF (fun Pt=>⟨rI,?_⟩));obtain⟨aoB,hM⟩:=bQ hM;refine cK 10 rfl (iq (r:=aD.2.1) (r2:=Pt) uR (Kn.aj (e:=9) (r:=Pt) hA) oF (of_decide_eq_true aoB) (fun mI=>⟨rI,?_⟩));refine aI 11 rfl dF ?_;refine aI 12 rfl (aY 1) ?_;refine iX rfl (sO ?_);refine iW (gu _ _ ?_);refine aJ ?_;obtain rfl:=some_inj hM;refine aF (eG (fun w hm=>bR (aD.1,mI,aD.2.2.1,aD.2.2.2) hm rfl))
 refine go ?_;obtain⟨kr,AU,hM⟩:=bind_some hM;refine bY rfl (dL 3 (kG p1 cZ) (fun hg=>let h:=jX (cu AU hg);⟨h.1,h.2.1⟩)) ?_;refine bY rfl (aY 0) ?_;refine bY rfl (dY 0 (kG p1 cZ) (fun hg=>cu AU hg)) ?_;refine go ?_;refine co hM (fun hc19 hM=>?_) (fun hc19 hM=>?_)
 ·refine aR ?_;refine om ?_;obtain⟨y20,yO,hM⟩:=bind_some hM;refine bf (fu sA (fun S w hs hP=>auH _ w vU l0 aD p1 cZ y20 yO hP (kM hs)) fG (fun Bg=>?_));dsimp only[cA,nA];refine aN ?_;obtain rfl:=some_inj hM;refine aF (eG (fun w hm=>bR (aD.1,aD.2.1,Bg,aD.2.2.2) hm rfl))
 refine go ?_;obtain⟨x23,hx24,hM⟩:=bind_some hM;refine bY rfl (dL 3 (kG p1 cZ) (fun hg=>let h:=jX (cu hx24 hg);⟨h.1,h.2.1⟩)) ?_;refine bY rfl (aY 0) ?_;refine bY rfl (dY 0 (kG p1 cZ) (fun hg=>cu hx24 hg)) ?_;refine go ?_;refine co hM (fun hc25 hM=>?_) (fun hc25 hM=>?_)
 ·refine aR ?_;refine om ?_;obtain⟨mW,hy27,hM⟩:=bind_some hM;refine bf (fu sA (fun S w hs hP=>auG _ w vU l0 aD p1 cZ mW hy27 hP (kM hs)) fG (fun Jr=>?_));dsimp only[cA,nA];refine aN ?_;obtain rfl:=some_inj hM;refine aF (eG (fun w hm=>bR (aD.1,aD.2.1,aD.2.2.1,Jr) hm rfl))
 refine cs hK2 ?_;refine aJ ?_;obtain rfl:=some_inj hM;refine aF (eG (fun w hm=>bR (aD.1,aD.2.1,aD.2.2.1,aD.2.2.2) hm rfl))
end Go.Proofs.YtcalibhfgdncaaaGreatDoor

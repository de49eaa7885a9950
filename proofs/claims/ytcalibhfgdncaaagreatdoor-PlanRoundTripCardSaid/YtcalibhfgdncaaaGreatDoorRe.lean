/- Models of functions, and that the code computes them. -/
import Derived.Test.YtcalibhfgdncaaaGreatDoorRd
set_option linter.all false
namespace Go.Proofs.YtcalibhfgdncaaaGreatDoor
open Go.Dc Go.RowKit
set_option maxRecDepth 10000
def Yf(x0:Int)(p1:Int):Option (Int×Int):=
 some ((IntKind.u64.wrap ((IntKind.u64.wrap ((IntKind.u64.wrap ((DY .u64 x0 32)*(DY .u64 p1 32)))+(DY .u64 (IntKind.u64.wrap ((IntKind.u64.wrap ((DY .u64 x0 32)*(Ez .u64 p1 4294967295)))+(DY .u64 (IntKind.u64.wrap ((Ez .u64 x0 4294967295)*(Ez .u64 p1 4294967295))) 32))) 32)))+(DY .u64 (IntKind.u64.wrap ((Ez .u64 (IntKind.u64.wrap ((IntKind.u64.wrap ((DY .u64 x0 32)*(Ez .u64 p1 4294967295)))+(DY .u64 (IntKind.u64.wrap ((Ez .u64 x0 4294967295)*(Ez .u64 p1 4294967295))) 32))) 4294967295)+(IntKind.u64.wrap ((Ez .u64 x0 4294967295)*(DY .u64 p1 32))))) 32))),(IntKind.u64.wrap (x0*p1)))
theorem ahS(S:bB)(w:World)(x0:Int)(p1:Int)(y:Int×Int)(hM:Yf x0 p1=some y)(hS:sB S w):
  Calls Tryz.prog 219 #[.int .u64 x0,.int .u64 p1] w (cu w (.tuple #[.int .u64 y.1,.int .u64 y.2])):=by
 refine bP (args:=[_,_]) Tryz.func219 rfl ((pre_nil hS).start) rfl ?_;unfold Yf at hM;refine sr ?_;refine oa ?_;refine aP ?_;refine aO ?_;refine oe Yt ?_;refine aP ?_;refine aO ?_;refine oe (O5 (q:=32) (fun _=>by decide)) ?_;refine aP ?_;refine aO ?_;refine oe Yt ?_;refine aP ?_;refine aO ?_;refine oe (O5 (q:=32) (fun _=>by decide)) ?_;refine aP ?_;refine aO ?_;refine om ?_;refine oe Lg ?_;refine aP ?_;refine aO ?_;refine om ?_;refine oe Lg ?_;refine om ?_;refine oe (O5 (q:=32) (fun _=>by decide)) ?_;refine oe OZ ?_;refine aP ?_;refine aO ?_;refine oe Yt ?_;refine oa ?_
 refine on ?_;refine aO ?_;refine oe (O5 (q:=32) (fun _=>by decide)) ?_;refine aP ?_;refine aO ?_;refine om ?_;refine om ?_;refine oe Lg ?_;refine oe OZ ?_;refine aP ?_;refine aO ?_;refine om ?_;refine oe Lg ?_;refine om ?_;refine oe OZ ?_;refine om ?_;refine oe (O5 (q:=32) (fun _=>by decide)) ?_;refine oe OZ ?_;refine aP ?_;refine aO ?_;refine om ?_;refine oe Lg ?_;refine aP ?_;exact aW (vH hM)
def Ui(x0:Int)(p1:Int):Option (Int×Int):=
 (Yf x0 p1).bind fun y1=>
 some (y1.1,y1.2)
theorem ahT(S:bB)(w:World)(x0:Int)(p1:Int)(y:Int×Int)(hM:Ui x0 p1=some y)(hS:sB S w):
  Calls Tryz.prog 213 #[.int .u64 x0,.int .u64 p1] w (cu w (.tuple #[.int .u64 y.1,.int .u64 y.2])):=by
 refine bP (args:=[_,_]) Tryz.func213 rfl ((pre_nil hS).start) rfl ?_;unfold Ui at hM;refine sr ?_;refine oa ?_;refine aP ?_;refine aG fun K2 hK2=>?_;refine OP rfl rfl ?_;refine aX (hK2 _ _ ?_);clear hK2;refine aO ?_;refine om ?_;obtain⟨y1,hy2,hM⟩:=bind_some hM;refine cv (fun hs=>ahS _ _ x0 p1 y1 hy2 (bC hs)) ?_;refine om ?_;refine oe (eO (vs:=[.int .u64 y1.1,.int .u64 y1.2])) ?_;refine oe (eO (vs:=[.int .u64 y1.1,.int .u64 y1.2])) ?_;refine oa ?_;refine aP ?_;refine aO ?_;refine om ?_;refine oa ?_;refine aP ?_;exact aW (vH hM)
def agB(wz:List Cell):Unit→Option (List Cell):=fun _=>
 some wz
def WK(aY:((List Cell)×Int)→Option (List Cell)):((List Cell)×Int)→Option (List Cell):=fun (wz,gJ)=>
 if decide (gJ<(wz.length:Int)) then
  ((sub wz gJ (wz.length:Int)).bind fun l9=>
  (sub wz 0 gJ).bind fun QJ=>
  (Dk wz (gJ.toNat) l9.length QJ).bind fun Cg=>
  bG (bW (gJ+((Nat.min QJ.length l9.length:Nat):Int)))<|
  aY (Cg,(gJ+((Nat.min QJ.length l9.length:Nat):Int))))
 else
  (agB wz ())
def WM(y1:Int×Int)(x0:List Cell):Unit→Option (List Cell):=fun _=>
 (mk (α:=Cell) (Cell.mk 0 0) (IntKind.i64.wrap y1.2)).bind fun m3=>
 (Dk m3 0 m3.length x0).bind fun l6=>
 iter (WK) FUEL (l6,((Nat.min x0.length m3.length:Nat):Int))
def WL(x0:List Cell)(Di:Int):Unit→Option (List Cell):=fun _=>
 (Ui (IntKind.u64.wrap (x0.length:Int)) (IntKind.u64.wrap Di)).bind fun y1=>
 if (decide (0<y1.1)||decide (9223372036854775807<y1.2)) then
  (none)
 else
  (WM y1 x0 ())
def Td(x0:List Cell)(Di:Int):Option (List Cell):=
 if decide (Di<0) then
  (none)
 else
  (WL x0 Di ())
theorem aps(S:bB)(w:World)(x0:List Cell)(HZ:ak.R (List Cell))(Di:Int)(y:(List Cell))(hM:Td x0 Di=some y)(hS:sB S w)(ajE:ak.ok S w HZ x0):
   Calls Tryz.prog 202 #[sL HZ x0,vI Di] w (Post (β:=(ak.R (List Cell))) S [] (fun g=>sL g y) (fun g=>[ah 254 g y]) w):=by
 refine bP (args:=[_,_]) Tryz.func202 rfl ((pre_nil hS).start |>.bU (α:=List Cell) (r:=HZ) (x:=x0) ajE) rfl ?_;unfold Td at hM;refine bD ?_;refine jm y (k:=WL x0 Di) (fun _=>[(0,eS HZ x0),(1,eI Di)]) (fun _=>[iL x0 HZ]) ?_ ?_
 ·intro wX fB;refine aO ?_;refine oe cO ?_;refine on ?_;refine cc rfl hM (fun hc19 hM=>?_) (fun hc19 hM=>?_)
  · refine aZ ?_;cases hM
  refine aX (fB hM sS rI)
 clear hM;rintro⟨⟩ hM;dsimp only[WL] at hM ⊢;refine aO ?_;refine oe bJ ?_;refine oe (ED .u64) ?_;refine om ?_;refine oe (ED .u64) ?_;obtain⟨y1,hy2,hM⟩:=bind_some hM;refine cv (fun hs=>ahT _ _ (IntKind.u64.wrap (x0.length:Int)) (IntKind.u64.wrap Di) y1 hy2 (bC hs)) ?_;refine om ?_;refine oe (eO (vs:=[.int .u64 y1.1,.int .u64 y1.2])) ?_;refine oe (eO (vs:=[.int .u64 y1.1,.int .u64 y1.2])) ?_;refine oa ?_;refine aP ?_;refine jm y (k:=WM y1 x0) (fun _=>[(0,eS HZ x0),(6,.v (.int .u64 y1.2))]) (fun _=>[iL x0 HZ]) ?_ ?_
 ·intro za hJ2;refine aO ?_;refine oe iw ?_;refine om ?_;refine av rfl aH ?_;refine av rfl iw ?_;refine oe eT ?_;refine on ?_;refine cc rfl hM (fun hc18 hM=>?_) (fun hc18 hM=>?_)
  · refine aZ ?_;cases hM
  refine aX (hJ2 hM sS rI)
 clear hM;rintro⟨⟩ hM;dsimp only[WM] at hM ⊢;refine aO ?_;refine oe (ED .i64) ?_;obtain⟨m3,hm4,hM⟩:=bind_some hM;refine bn (agH (α:=Cell) (e:=254) (Cell.mk 0 0) () hm4 (fun _ _=>trivial) (fun r5 hr5=>?_));refine aP ?_;refine aO ?_;refine om ?_;obtain⟨l6,U3,hM⟩:=bind_some hM;refine bn (agG (r:=r5) (xs:=m3) uA (kG x0 HZ) U3 From.all (fun _ _ _ _=>trivial) (fun _ _ _=>rfl) ?_);refine aaw 30 (v':=sL r5 l6) rfl (by simp only[I9 U3,List.length_set,eS,sL]) ?_;refine aaw 7 (v':=sL r5 l6) rfl (by simp only[I9 U3,List.length_set,eS,sL]) ?_;refine aaw 31 (v':=sL r5 l6) rfl (by simp only[I9 U3,List.length_set,eS,sL]) ?_;refine aP ?_;refine aG fun K5 bS=>?_;refine bF ?_;refine lq hM (fun (wz,gJ)=>[(7,eS r5 wz),(8,eI gJ)]) (fun (wz,gJ)=>[ah 254 r5 wz]) sS rI ?_;clear hM;rintro aY ⟨wz,gJ⟩ hM gu hL1;dsimp only[WK] at hM ⊢;refine aG fun K6 bZ=>?_;refine aO ?_
 refine om ?_;refine oe bJ ?_;refine oe cO ?_;refine on ?_;refine cc rfl hM (fun hc8 hM=>?_) (fun hc8 hM=>?_)
 ·refine aX (bZ _ _ ?_);clear bZ;refine bF ?_;refine iD [] (by repeat (first|exact List.Sublist.refl _|apply List.Sublist.cons_cons|apply List.Sublist.cons)) ?_;refine ay 0 rfl aH ?_;refine ay 1 rfl aH ?_;refine ay 2 rfl aH ?_;obtain⟨l9,akF,hM⟩:=bind_some hM;refine Yc (fun w hm=>Kn.acp (Kn.ah (e:=254) (r:=r5) hA) hm) fun akw=>?_;refine ay 3 rfl (ac1 (xs:=wz) (ol:=some (.i64,gJ)) (oh:=none) akw (fun _=>akF)) ?_;refine ay 4 rfl aH ?_;refine ay 5 rfl aH ?_;obtain⟨QJ,adB,hM⟩:=bind_some hM;refine Yc (fun w hm=>Kn.acp (Kn.ah (e:=254) (r:=r5) hA) hm) fun akx=>?_;refine ay 6 rfl (ac1 (xs:=wz) (ol:=none) (oh:=some (.i64,gJ)) akx (fun _=>adB)) ?_;obtain⟨Cg,P9,hM⟩:=bind_some hM;refine eD 7 rfl (agG (r:=r5) (xs:=wz) uA (Kn.apY (Kn.ah (e:=254) (r:=r5) hA) adB) P9 From.sub (fun _ _ _ _=>trivial) (fun _ _ _=>rfl) ⟨rI,?_⟩);refine Uf 7 (v':=sL r5 Cg) rfl (by simp only[I9 P9,List.length_set,eS,sL]) ?_;refine Uf 35 (v':=sL r5 Cg) rfl (by simp only[I9 P9,List.length_set,eS,sL]) ?_;refine Uf 39 (v':=sL r5 Cg) rfl (by simp only[I9 P9,List.length_set,eS,sL]) ?_;refine Uf 42 (v':=sL r5 Cg) rfl (by simp only[I9 P9,List.length_set,eS,sL]) ?_;obtain⟨YK,hM⟩:=dw hM;refine ay 8 rfl (dH (hr:=fun hg=>fH YK)) ?_
  refine ay 9 rfl dx ?_;refine dY (hL1 hM sS rI)
 refine dL (bS _ _ ?_);clear bS;dsimp only[agB] at hM;refine aO ?_;refine aP ?_;obtain rfl:=some_inj hM;refine aW (jE (fun w hm=>dO r5 hm rfl))
def Ic(ji:Section)(u7:List Cell)(aY:((List Cell)×Nat)→Option ((List Cell)×Int×Int))(zW:Nat):Int→Option ((List Cell)×Int×Int):=fun I8=>
 (Td ([(Cell.mk ji.Limit I8)]:List Cell) ji.Length).bind fun y22=>
 bG (decide ((u7.length+y22.length)*16≤140737488355328))<|
 aY ((u7++y22),zW+1)
def abe(u7:List Cell)(r0:aQ)(l0:Layout):Unit→Option ((List Cell)×Int×Int):=fun _=>
 if decide (4000<(u7.length:Int)) then
  (some (([]:List Cell),0,7))
 else
  ((idx r0.Steps 0).bind fun x31=>
  (idx l0.Sections x31.Section).bind fun yc=>
  some (u7,yc.Length,0))
def Sm(l8:List Step)(l0:Layout)(r0:aQ)(aY:((List Cell)×Nat)→Option ((List Cell)×Int×Int)):((List Cell)×Nat)→Option ((List Cell)×Int×Int):=fun (u7,zW)=>
 if decide ((zW:Int)<(l8.length:Int)) then
  ((idx l8 (zW:Int)).bind fun jZ=>
  (idx l0.Sections jZ.Section).bind fun ji=>
  if decide (jZ.Dir=1) then
   (bG (bW (-ji.lJ))<|
   Ic ji u7 aY zW (-ji.lJ))
  else
   (Ic ji u7 aY zW ji.lJ))
 else
  (abe u7 r0 l0 ())
def Sn(l0:Layout)(r0:aQ):Option ((List Cell)×Int×Int):=
 (Nv l0 r0).bind fun y3=>
 if decide (y3≠0) then
  (some (([]:List Cell),0,y3))
 else
  (bG (bW ((r0.Steps.length:Int)-r0.Overlap))<|
  (sub r0.Steps 0 ((r0.Steps.length:Int)-r0.Overlap)).bind fun l8=>
  iter (Sm l8 l0 r0) FUEL (([]:List Cell),0))
theorem aop(S:bB)(w:World)(l0:Layout)(aC:ak.R Layout)(r0:aQ)(aj:ak.R aQ)(y:(List Cell)×Int×Int)(hM:Sn l0 r0=some y)(hS:sB S w)(fG:ak.ok S w aC l0)(uT:ak.ok S w aj r0):
   Calls Tryz.prog 193 #[.agg (lC l0 aC),.agg (C9 r0 aj)] w (Post (β:=(ak.R (List Cell))) S [] (fun g=> .tuple #[sL g y.1,vI y.2.1,vI y.2.2]) (fun g=>[ah 254 g y.1]) w):=by
 refine bP (args:=[_,_]) Tryz.func193 rfl ((pre_nil hS).start |>.lS fG|>.bU (α:=List Step) (r:=aj) (x:=r0.Steps) uT) rfl ?_;unfold Sn at hM;refine sr ?_;refine oB (dP l0 aC) fun b1=>?_;refine oB (nU r0 aj) fun b2=>?_;refine oa ?_;refine oa ?_;refine aP ?_;refine aG fun K2 hK2=>?_;refine sr ?_;refine oe (bX (b:=b1)) ?_;refine oe (bX (b:=b2)) ?_;obtain⟨y3,hy4,hM⟩:=bind_some hM;refine cv (fun hs=>afZ _ _ l0 aC r0 aj y3 hy4 (bC hs) ⟨(kM hs),(kM hs),(kM hs),(kM hs)⟩ (kM hs)) ?_;refine aP ?_;refine aO ?_;refine oe iy ?_;refine on ?_
 refine cc rfl hM (fun jA hM=>?_) (fun jA hM=>?_)
 ·refine aO ?_;refine oa ?_;refine oa ?_;refine aP ?_;refine bQ (fun w hm=>hm.bV (α:=Cell) 254 (fun _=>())) ?_;obtain rfl:=some_inj hM;refine aW (uY (fun w hm=>dO JJ hm rfl))
 refine aX (hK2 _ _ ?_);clear hK2;refine bD ?_;refine aG fun K7 dZ=>?_;refine sr ?_;refine oe (aD 0) ?_;refine oe (aJ (b:=b2)) ?_;refine oe (aD 0) ?_;refine oe (aJ (b:=b2)) ?_;refine oe bJ ?_;refine oe (aD 1) ?_;refine oe (aJ (b:=b2)) ?_;refine oN hM fun hM=>?_;obtain⟨l8,hl9,hM⟩:=bind_some hM;refine bn (NK (r:=aj) (xs:=r0.Steps) (ol:=none) (oh:=some (.i64,((r0.Steps.length:Int)-r0.Overlap))) (Sk.dW (α:=List Step) (r:=aj) (x:=r0.Steps) hA) hl9 (fun yO=>?_));refine iO (fun w hm=>Kn.len (kG l8 yO) hm) fun akG=>?_;refine oe bJ ?_;refine om ?_;refine on ?_;refine bF ?_;refine bQ (fun w hm=>hm.bV (α:=Cell) 254 (fun _=>())) ?_;refine lp JJ hM (fun (u7,zW) H6=>[(2,eP b1),(3,eP b2),(8,eS H6 u7),(27,eS yO l8),(28,eI (l8.length:Int)),(29,eI (zW:Int))]) (fun (u7,zW) H6=>[iL l0.aM aC.1,iL l0.aV aC.2.1,iL l0.Sections aC.2.2.1,iL l0.Links aC.2.2.2,own b1 26 (dP l0 aC),iL r0.Steps aj,own b2 90 (nU r0 aj),ah 254 H6 u7,iL l8 yO]) sS rI ?_
 clear hM;rintro aY ⟨u7,zW⟩ H6 hM gu hL1;dsimp only[Sm] at hM ⊢;refine sr ?_;refine oe cO ?_;refine on ?_;refine aG fun uN gX=>?_;refine cc rfl hM (fun BS hM=>?_) (fun BS hM=>?_)
 ·have aj7:=of_decide_eq_true BS;refine aX (gX _ _ ?_);clear gX;refine aG fun o7 eH=>?_;refine bF ?_;refine sr ?_;obtain⟨jZ,EM,hM⟩:=bind_some hM;refine oe (bI (xs:=l8) 2 (kG l8 yO) (iS EM)) ?_;refine oe (fO (m:=2) (i:=(zW:Int)) (xs:=l8) (y:=jZ) (l:=(qU jZ)) 0 (kG l8 yO) (fun _=>EM)) ?_;refine oA rfl fun b16=>?_;refine oS b16 (qU jZ) ?_;refine on ?_;refine sr ?_;refine oe (aD 2) ?_;refine oe (aJ (b:=b1)) ?_;refine oe (aD 0) ?_;refine oe (aJ (b:=b16)) ?_;obtain⟨ji,vY,hM⟩:=bind_some hM;refine oe (bI (xs:=l0.Sections) 5 (kG l0.Sections aC.2.2.1) (iS vY)) ?_;refine oe (fO (m:=5) (i:=jZ.Section) (xs:=l0.Sections) (y:=ji) (l:=(Co ji)) 0 (kG l0.Sections aC.2.2.1) (fun _=>vY)) ?_;refine oA rfl fun b19=>?_;refine oS b19 (Co ji) ?_
  refine on ?_;refine sr ?_;refine oe (aD 2) ?_;refine oe (aJ (b:=b19)) ?_;refine oe (aD 3) ?_;refine oe (aJ (b:=b19)) ?_;refine oe (fT [vI ji.Limit,vI ji.lJ]) ?_;refine oA rfl fun b20=>?_;refine oS b20 [vI ji.Limit,vI ji.lJ] ?_;refine on ?_;refine jm y (k:=Ic ji u7 aY zW) (fun I8=>[(2,eP b1),(3,eP b2),(8,eS H6 u7),(11,eP b19),(12,eP b20),(27,eS yO l8),(28,eI (l8.length:Int)),(29,eI (zW:Int))]) (fun I8=>[iL l0.aM aC.1,iL l0.aV aC.2.1,iL l0.Sections aC.2.2.1,iL l0.Links aC.2.2.2,own b1 26 (dP l0 aC),iL r0.Steps aj,own b2 90 (nU r0 aj),ah 254 H6 u7,own b19 81 (Co ji),own b20 254 [vI ji.Limit,vI I8],iL l8 yO]) ?_ ?_
  · intro za hJ2;refine sr ?_;refine oe (aD 1) ?_;refine oe (aJ (b:=b16)) ?_;refine oe eu ?_;refine on ?_;refine cc rfl hM (fun hc27 hM=>?_) (fun hc27 hM=>?_)
    ·refine aZ ?_;refine oe (aD 1) ?_;refine oe (aJ (b:=b20)) ?_;obtain⟨ajo,hM⟩:=dw hM;refine oe (Yw (hr:=fun hg=>fH ajo)) ?_;refine oe (aD 1) ?_;refine bn (fP (b:=b20) (l':=[vI ji.Limit,vI (-ji.lJ)]) (k:=?_));refine bf (hJ2 hM sS rI)
    refine aX (hJ2 hM sS rI)
  clear hM;rintro I8 hM;dsimp only[Ic] at hM ⊢;refine aZ ?_;refine om ?_;refine oe (bX (b:=b20)) ?_;refine bn (eX (α:=Cell) 254 (fun _=>()) ([(Cell.mk ji.Limit I8)]:List Cell) oF (fun uI=>?_));refine oe (aD 1) ?_;refine oe (aJ (b:=b19)) ?_;obtain⟨y22,xE,hM⟩:=bind_some hM;refine bn (eU jw.nil (fun S w hs hP=>aps _ w ([(Cell.mk ji.Limit I8)]:List Cell) uI ji.Length y22 xE (bC hs) (kT hs)) fK (fun qX=>?_));dsimp only[cA,nA];obtain⟨ajP,hM⟩:=dw hM;refine bn (iP (r:=H6) (r2:=qX) uR (Kn.ah (e:=254) (r:=qX) hA) oF (of_decide_eq_true ajP) (fun Hq=>?_));refine oa ?_;refine bf (eH _ _ ?_);clear eH;refine aZ ?_;refine oe (dH (hr:=fun _=>by unfold d9;omega)) ?_;refine om ?_;refine bf (hL1 Hq hM sS rI)
 refine dL (dZ _ _ ?_);clear dZ;dsimp only[abe] at hM;refine aG fun F6 oL=>?_;refine aO ?_;refine oe bJ ?_;refine oe iw ?_;refine on ?_;refine cc rfl hM (fun hc29 hM=>?_) (fun hc29 hM=>?_)
 ·refine sr ?_;refine oa ?_;refine oa ?_;refine aP ?_;refine bQ (fun w hm=>hm.bV (α:=Cell) 254 (fun _=>())) ?_;obtain rfl:=some_inj hM;refine aW (uY (fun w hm=>dO JJ hm rfl))
 refine aX (oL _ _ ?_);clear oL;refine aG fun KJ rZ=>?_;refine iD _ (List.Sublist.refl _) ?_;refine ay 0 rfl aH ?_;refine ay 1 rfl (aD 2) ?_;refine ay 2 rfl (aJ (b:=b1)) ?_;refine ay 3 rfl (aD 0) ?_;refine ay 4 rfl (aJ (b:=b2)) ?_;obtain⟨x31,hx32,hM⟩:=bind_some hM;refine ay 5 rfl (bI (xs:=r0.Steps) 2 (kG r0.Steps aj) (iS hx32)) ?_;refine ay 6 rfl (aD 0) ?_;refine ay 7 rfl (dh (i:=0) (xs:=r0.Steps) (y:=x31) 0 (kG r0.Steps aj) (fun _=>hx32)) ?_;obtain⟨yc,hx34,hM⟩:=bind_some hM;refine ay 8 rfl (bI (xs:=l0.Sections) 5 (kG l0.Sections aC.2.2.1) (iS hx34)) ?_;refine ay 9 rfl (aD 1) ?_;refine ay 10 rfl (dh (i:=x31.Section) (xs:=l0.Sections) (y:=yc) 1 (kG l0.Sections aC.2.2.1) (fun _=>hx34)) ?_;refine ay 11 rfl dx ?_;refine ay 12 rfl dx ?_;refine ay 13 rfl dx ?_;refine dY (rZ _ _ ?_);clear rZ;obtain rfl:=some_inj hM;refine aW (uY (fun w hm=>dO H6 hm rfl))
end Go.Proofs.YtcalibhfgdncaaaGreatDoor

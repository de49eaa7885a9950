/- Models of functions, and that the code computes them. -/
import Derived.Test.YtcalibhfgdncaaaGreatTypes
set_option linter.all false
namespace Go.Proofs.YtcalibhfgdncaaaGreat
open Go.Dc Go.RowKit
set_option maxRecDepth 10000
def TK(n0:Int)(limit0:Int):Option Bool:=
 aX (bA (-limit0))<|
 some (decide ((-limit0)≤n0)&&decide (n0≤limit0))
theorem adH(S:bF)(w:World)(n0:Int)(limit0:Int)(y:Bool)(hM:TK n0 limit0=some y)(hS:sB S w):
  Calls Tryz.prog 114 #[vI n0,vI limit0] w (dw w (.bool y)):=by
 refine bW (args:=[_,_]) Tryz.func114 rfl ((pre_nil hS).start) rfl ?_;unfold TK at hM;refine bg ?_;refine aJ ?_;refine om ?_;obtain⟨hI1,hM⟩:=bQ hM;refine oe (GX (hr:=fun hg=>dI hI1)) ?_;refine oe ig ?_;refine om ?_;refine au rfl aH ?_;refine au rfl aH ?_;refine au rfl kD ?_;refine oe dB ?_;refine aL ?_;exact aP (bD hM)
def ac7(Ae:Int):Unit→Option Bool:=fun _=>
 some (decide (Ae=0))
def ac5(g0:Graph)(Ae:Int)(cu:Nat→Option Bool):Nat→Option Bool:=fun Iu=>
 if decide ((Iu:Int)<(g0.iH.length:Int)) then
  ((idx g0.iH (Iu:Int)).bind fun iw=>
  if ((((decide (iw.From<0)||decide ((g0.gX.length:Int)≤iw.From))||decide (iw.To<0))||decide ((g0.gX.length:Int)≤iw.To))||decide (iw.From=iw.To)) then
   (some false)
  else
   ((dW (!(decide (iw.Cap<0)||decide (1048576<iw.Cap))) default (TK iw.wN 1048576)).bind fun zw=>
   if ((decide (iw.Cap<0)||decide (1048576<iw.Cap))||(!zw)) then
    (some false)
   else
    (cu (Iu+1))))
 else
  (ac7 Ae ())
def ac6(g0:Graph)(Ae:Int):Unit→Option Bool:=fun _=>
 iter (ac5 g0 Ae) FUEL 0
def ac4(g0:Graph)(aN:(Int×Nat)→Option Bool):(Int×Nat)→Option Bool:=fun (Ae,oC)=>
 if decide ((oC:Int)<(g0.gX.length:Int)) then
  ((idx g0.gX (oC:Int)).bind fun x5=>
  (TK x5 1048576).bind fun y7=>
  if (!y7) then
   (some false)
  else
   (aX (bA (Ae+x5))<|
   aN ((Ae+x5),oC+1)))
 else
  (ac6 g0 Ae ())
def X7(g0:Graph):Option Bool:=
 if ((decide ((g0.gX.length:Int)<1)||decide (96<(g0.gX.length:Int)))||decide (1024<(g0.iH.length:Int))) then
  (some false)
 else
  (iter (ac4 g0) FUEL (0,0))
theorem aiy(S:bF)(w:World)(g0:Graph)(jW:ak.R Graph)(y:Bool)(hM:X7 g0=some y)(hS:sB S w)(Ph:ak.ok S w jW g0):
   Calls Tryz.prog 92 #[.agg (Xy g0 jW)] w (dw w (.bool y)):=by
 refine bW (args:=[_]) Tryz.func92 rfl ((pre_nil hS).start |>.aam Ph) rfl ?_;unfold X7 at hM;refine sr ?_;refine oB (JJ g0 jW) fun b1=>?_;refine aL ?_;refine sr ?_;refine oe (ay 0) ?_;refine oe (aD (b:=b1)) ?_;refine oe bf ?_;refine aL ?_;refine aF fun K3 hK3=>?_;refine aJ ?_;refine oe bK ?_;refine om ?_;refine au rfl aH ?_;refine au rfl eO ?_;refine oe bP ?_;refine om ?_;refine au rfl (ay 1) ?_;refine au rfl (aD (b:=b1)) ?_;refine au rfl bf ?_;refine au rfl eO ?_;refine oe bP ?_;refine on ?_;refine cc rfl hM (fun hc2 hM=>?_) (fun hc2 hM=>?_)
 ·refine bg ?_;exact aP (bD hM)
 refine aM (hK3 _ _ ?_);clear hK3;refine bg ?_;refine aF fun K7 eU=>?_;refine sr ?_;refine oe (ay 0) ?_;refine oe (aD (b:=b1)) ?_;refine gU (fun w hm=>Kn.len (kG g0.gX jW.1) hm) fun hl3=>?_;refine oe bf ?_;refine om ?_;refine on ?_;refine aV ?_;refine lq hM (fun (Ae,oC)=>[(1,eP b1),(3,eI (g0.gX.length:Int)),(4,eI Ae),(25,eS jW.1 g0.gX),(26,eI (g0.gX.length:Int)),(27,eI (oC:Int))]) (fun (Ae,oC)=>[iL g0.gX jW.1,iL g0.iH jW.2,own b1 129 (JJ g0 jW)]) sS rI ?_;clear hM;rintro aN ⟨Ae,oC⟩ hM fQ hL1;dsimp only[ac4] at hM ⊢;refine sr ?_;refine oe bK ?_;refine on ?_;refine aF fun sK gy=>?_;refine cc rfl hM (fun hc4 hM=>?_) (fun hc4 hM=>?_)
 ·have Du:=of_decide_eq_true hc4;refine aM (gy _ _ ?_);clear gy;refine aF fun pR eH=>?_;refine aV ?_;refine sr ?_;obtain⟨x5,hx6,hM⟩:=bind_some hM;refine oe (aQ (xs:=g0.gX) 1 (kG g0.gX jW.1) (iS hx6)) ?_;refine oe (bE (i:=(oC:Int)) (xs:=g0.gX) (y:=x5) 0 (kG g0.gX jW.1) (fun _=>hx6)) ?_;refine aL ?_;refine aF fun rU fT=>?_;refine aJ ?_;obtain⟨y7,Jq,hM⟩:=bind_some hM;refine cv (fun hs=>adH _ _ x5 1048576 y7 Jq (bq hs)) ?_;refine oe dN ?_;refine on ?_;refine cc rfl hM (fun rY hM=>?_) (fun rY hM=>?_)
  · refine bg ?_;exact aP (bD hM)
  refine aM (fT _ _ ?_);clear fT;refine aT ?_;refine om ?_;refine om ?_;refine oP hM fun hM=>?_;refine oa ?_;refine aU (eH _ _ ?_);clear eH;refine aT ?_;refine oe (dh (hr:=fun _=>by unfold dS;omega)) ?_;refine om ?_;refine aU (hL1 hM sS rI)
 refine bX (eU _ _ ?_);clear eU;dsimp only[ac6] at hM;refine aF fun yF jC=>?_;refine sr ?_;refine oe (ay 1) ?_;refine oe (aD (b:=b1)) ?_;refine gU (fun w hm=>Kn.len (kG g0.iH jW.2) hm) fun ad9=>?_;refine oe bf ?_;refine om ?_;refine on ?_;refine aV ?_;refine lq hM (fun Iu=>[(3,eI (g0.gX.length:Int)),(4,eI Ae),(39,eS jW.2 g0.iH),(40,eI (g0.iH.length:Int)),(41,eI (Iu:Int))]) (fun Iu=>[iL g0.iH jW.2]) sS rI ?_;clear hM;rintro cu Iu hM qM hL2;dsimp only[ac5] at hM ⊢;refine sr ?_;refine oe bK ?_;refine on ?_;refine aF fun CX mE=>?_;refine cc rfl hM (fun qQ hM=>?_) (fun qQ hM=>?_)
 ·have ajK:=of_decide_eq_true qQ;refine aM (mE _ _ ?_);clear mE;refine aF fun CY mF=>?_;refine aV ?_;refine sr ?_;obtain⟨iw,qB,hM⟩:=bind_some hM;refine oe (aQ (xs:=g0.iH) 4 (kG g0.iH jW.2) (iS qB)) ?_;refine oe (eY (m:=4) (i:=(Iu:Int)) (xs:=g0.iH) (y:=iw) (l:=(Mw iw)) 0 (kG g0.iH jW.2) (fun _=>qB)) ?_;refine oA rfl fun b15=>?_;refine oS b15 (Mw iw) ?_;refine on ?_;refine aF fun CZ ni=>?_;refine sr ?_;refine oe (ay 0) ?_;refine oe (aD (b:=b15)) ?_;refine oe bK ?_;refine om ?_;refine au rfl (ay 0) ?_;refine au rfl (aD (b:=b15)) ?_;refine au rfl aH ?_;refine au rfl ig ?_;refine oe bP ?_;refine om ?_;refine au rfl (ay 1) ?_;refine au rfl (aD (b:=b15)) ?_;refine au rfl bK ?_;refine oe bP ?_;refine om ?_;refine au rfl (ay 1) ?_;refine au rfl (aD (b:=b15)) ?_;refine au rfl aH ?_;refine au rfl ig ?_;refine oe bP ?_;refine om ?_
  refine au rfl (ay 0) ?_;refine au rfl (aD (b:=b15)) ?_;refine au rfl (ay 1) ?_;refine au rfl (aD (b:=b15)) ?_;refine au rfl fI ?_;refine oe bP ?_;refine on ?_;refine cc rfl hM (fun hc16 hM=>?_) (fun hc16 hM=>?_)
  · refine bg ?_;exact aP (bD hM)
  refine aM (ni _ _ ?_);clear ni;refine sr ?_;refine oe (ay 2) ?_;refine oe (aD (b:=b15)) ?_;refine oe bK ?_;refine om ?_;refine au rfl (ay 2) ?_;refine au rfl (aD (b:=b15)) ?_;refine au rfl eO ?_;refine oe bP ?_;refine om ?_;refine au rfl (ay 3) ?_;refine au rfl (aD (b:=b15)) ?_;obtain⟨zw,Jl,hM⟩:=bind_some hM;refine cg rfl (fun hg hs=>adH _ _ iw.wN 1048576 zw (dF Jl hg) (bq hs)) ?_;refine au rfl dN ?_;refine oe bP ?_;refine on ?_;refine cc rfl hM (fun hc19 hM=>?_) (fun hc19 hM=>?_)
  · refine bg ?_;exact aP (bD hM)
  refine aM (mF _ _ ?_);clear mF;refine aT ?_;refine oe (dh (hr:=fun _=>by unfold dS;omega)) ?_;refine om ?_;refine aU (hL2 hM sS rI)
 refine bX (jC _ _ ?_);clear jC;dsimp only[ac7] at hM;refine aJ ?_;refine oe fI ?_;refine aL ?_;exact aP (bD hM)
def aeA:Unit→Option Bool:=fun _=>
 some true
def aez(a0:List Int)(b0:List Int)(aN:Nat→Option Bool):Nat→Option Bool:=fun mV=>
 if decide ((mV:Int)<(a0.length:Int)) then
  ((idx a0 (mV:Int)).bind fun x4=>
  (idx b0 (mV:Int)).bind fun x6=>
  if decide (x4≠x6) then
   (some false)
  else
   (aN (mV+1)))
 else
  (aeA ())
def UC(a0:List Int)(b0:List Int):Option Bool:=
 if decide ((a0.length:Int)≠(b0.length:Int)) then
  (some false)
 else
  (iter (aez a0 b0) FUEL 0)
theorem aeB(S:bF)(w:World)(a0:List Int)(pG:ak.R (List Int))(b0:List Int)(aK:ak.R (List Int))(y:Bool)(hM:UC a0 b0=some y)(hS:sB S w)(Pg:ak.ok S w pG a0)(yM:ak.ok S w aK b0):
   Calls Tryz.prog 27 #[sL pG a0,sL aK b0] w (dw w (.bool y)):=by
 refine bW (args:=[_,_]) Tryz.func27 rfl ((pre_nil hS).start |>.dZ (α:=List Int) (r:=pG) (x:=a0) Pg|>.dZ (α:=List Int) (r:=aK) (x:=b0) yM) rfl ?_;unfold UC at hM;refine bg ?_;refine aF fun K2 hK2=>?_;refine aJ ?_;refine oe bf ?_;refine om ?_;refine oe bf ?_;refine oe gH ?_;refine on ?_;refine cc rfl hM (fun hc1 hM=>?_) (fun hc1 hM=>?_)
 ·refine bg ?_;exact aP (bD hM)
 refine aM (hK2 _ _ ?_);clear hK2;refine aF fun K5 bT=>?_;refine aJ ?_;refine gU (fun w hm=>Kn.len (kG a0 pG) hm) fun hl2=>?_;refine oe bf ?_;refine om ?_;refine on ?_;refine aV ?_;refine lq hM (fun mV=>[(0,eS pG a0),(1,eS aK b0),(12,eI (a0.length:Int)),(13,eI (mV:Int))]) (fun mV=>[iL a0 pG,iL b0 aK]) sS rI ?_;clear hM;rintro aN mV hM fQ hL1;dsimp only[aez] at hM ⊢;refine sr ?_;refine oe bK ?_;refine on ?_;refine aF fun K8 fu=>?_;refine cc rfl hM (fun hc3 hM=>?_) (fun hc3 hM=>?_)
 ·have YM:=of_decide_eq_true hc3;refine aM (fu _ _ ?_);clear fu;refine aF fun K9 dY=>?_;refine aV ?_;refine aJ ?_;refine aL ?_;refine aF fun pR eH=>?_;refine fE _ (List.Sublist.refl _) ?_;refine aj 0 rfl aH ?_;refine aj 1 rfl aH ?_;obtain⟨x4,hx5,hM⟩:=bind_some hM;refine aj 2 rfl (aQ (xs:=a0) 1 (kG a0 pG) (iS hx5)) ?_;refine aj 3 rfl (bE (i:=(mV:Int)) (xs:=a0) (y:=x4) 0 (kG a0 pG) (fun _=>hx5)) ?_;refine aj 4 rfl aH ?_;refine aj 5 rfl aH ?_;obtain⟨x6,hx7,hM⟩:=bind_some hM;refine aj 6 rfl (aQ (xs:=b0) 1 (kG b0 aK) (iS hx7)) ?_;refine aj 7 rfl (bE (i:=(mV:Int)) (xs:=b0) (y:=x6) 0 (kG b0 aK) (fun _=>hx7)) ?_;refine aj 8 rfl gH ?_;refine dK (eH _ _ ?_);clear eH;refine cc rfl hM (fun hc8 hM=>?_) (fun hc8 hM=>?_)
  · refine bg ?_;exact aP (bD hM)
  refine aM (dY _ _ ?_);clear dY;refine aT ?_;refine oe (dh (hr:=fun _=>by unfold dS;omega)) ?_;refine om ?_;refine aU (hL1 hM sS rI)
 refine bX (bT _ _ ?_);clear bT;dsimp only[aeA] at hM;refine bg ?_;exact aP (bD hM)
def aew:Unit→Option Bool:=fun _=>
 some true
def aev(a0:List (List Int))(b0:List (List Int))(aN:Nat→Option Bool):Nat→Option Bool:=fun mV=>
 if decide ((mV:Int)<(a0.length:Int)) then
  ((idx a0 (mV:Int)).bind fun x4=>
  (idx b0 (mV:Int)).bind fun x6=>
  (UC x4 x6).bind fun y8=>
  if (!y8) then
   (some false)
  else
   (aN (mV+1)))
 else
  (aew ())
def UA(a0:List (List Int))(b0:List (List Int)):Option Bool:=
 if decide ((a0.length:Int)≠(b0.length:Int)) then
  (some false)
 else
  (iter (aev a0 b0) FUEL 0)
theorem aex(S:bF)(w:World)(a0:List (List Int))(pG:ak.R (List (List Int)))(b0:List (List Int))(aK:ak.R (List (List Int)))(y:Bool)(hM:UA a0 b0=some y)(hS:sB S w)(Pg:ak.ok S w pG a0)(yM:ak.ok S w aK b0):
   Calls Tryz.prog 29 #[sL pG a0,sL aK b0] w (dw w (.bool y)):=by
 refine bW (args:=[_,_]) Tryz.func29 rfl ((pre_nil hS).start |>.dZ (α:=List (List Int)) (r:=pG) (x:=a0) Pg|>.dZ (α:=List (List Int)) (r:=aK) (x:=b0) yM) rfl ?_;unfold UA at hM;refine bg ?_;refine aF fun K2 hK2=>?_;refine aJ ?_;refine oe bf ?_;refine om ?_;refine oe bf ?_;refine oe gH ?_;refine on ?_;refine cc rfl hM (fun hc1 hM=>?_) (fun hc1 hM=>?_)
 ·refine bg ?_;exact aP (bD hM)
 refine aM (hK2 _ _ ?_);clear hK2;refine aF fun K5 bT=>?_;refine aJ ?_;refine gU (fun w hm=>Kn.len (kG a0 pG) hm) fun hl2=>?_;refine oe bf ?_;refine om ?_;refine on ?_;refine aV ?_;refine lq hM (fun mV=>[(0,eS pG a0),(1,eS aK b0),(12,eI (a0.length:Int)),(13,eI (mV:Int))]) (fun mV=>[iL a0 pG,iL b0 aK]) sS rI ?_;clear hM;rintro aN mV hM fQ hL1;dsimp only[aev] at hM ⊢;refine sr ?_;refine oe bK ?_;refine on ?_;refine aF fun K8 fu=>?_;refine cc rfl hM (fun hc3 hM=>?_) (fun hc3 hM=>?_)
 ·have YM:=of_decide_eq_true hc3;refine aM (fu _ _ ?_);clear fu;refine aF fun K9 dY=>?_;refine aV ?_;refine aJ ?_;refine aL ?_;refine aF fun pR eH=>?_;refine fE _ (List.Sublist.refl _) ?_;refine aj 0 rfl aH ?_;refine aj 1 rfl aH ?_;obtain⟨x4,hx5,hM⟩:=bind_some hM;refine aj 2 rfl (aQ (xs:=a0) 1 (kG a0 pG) (iS hx5)) ?_;refine aj 3 rfl (bE (i:=(mV:Int)) (xs:=a0) (y:=x4) 0 (kG a0 pG) (fun _=>hx5)) ?_;refine aj 4 rfl aH ?_;refine aj 5 rfl aH ?_;obtain⟨x6,hx7,hM⟩:=bind_some hM;refine aj 6 rfl (aQ (xs:=b0) 1 (kG b0 aK) (iS hx7)) ?_;refine aj 7 rfl (bE (i:=(mV:Int)) (xs:=b0) (y:=x6) 0 (kG b0 aK) (fun _=>hx7)) ?_;obtain⟨y8,qR,hM⟩:=bind_some hM;refine dX 8 rfl (sV (fun hs=>aeB _ _ x4 (pG.es (mV:Int).toNat) x6 (aK.es (mV:Int).toNat) y8 qR (bq hs) (Kn.lend ((Sk.elem (Sk.cO (α:=List (List Int)) (r:=pG) (x:=a0) hA) hx5)).kn hs) (Kn.lend ((Sk.elem (Sk.cO (α:=List (List Int)) (r:=aK) (x:=b0) hA) hx7)).kn hs)) ⟨rI,?_⟩);refine aj 9 rfl dN ?_;refine dK (eH _ _ ?_);clear eH;refine cc rfl hM (fun uQ hM=>?_) (fun uQ hM=>?_)
  · refine bg ?_;exact aP (bD hM)
  refine aM (dY _ _ ?_);clear dY;refine aT ?_;refine oe (dh (hr:=fun _=>by unfold dS;omega)) ?_;refine om ?_;refine aU (hL1 hM sS rI)
 refine bX (bT _ _ ?_);clear bT;dsimp only[aew] at hM;refine bg ?_;exact aP (bD hM)
end Go.Proofs.YtcalibhfgdncaaaGreat

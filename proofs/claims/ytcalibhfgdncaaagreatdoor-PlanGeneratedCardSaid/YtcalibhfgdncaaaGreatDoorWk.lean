/- Models of functions, and that the code computes them. -/
import Derived.Test.YtcalibhfgdncaaaGreatDoorWa
import Derived.Test.YtcalibhfgdncaaaGreatDoorBu
set_option linter.all false
namespace Go.Proofs.YtcalibhfgdncaaaGreatDoor
open Go.Dc Go.RowKit
set_option maxRecDepth 10000
def acT(s0:Str):Unit→Option Bool:=fun _=>
 some (!decide (s0=(⟨[]⟩:Str)))
def Uu(s0:Str)(bA:Nat→Option Bool):Nat→Option Bool:=fun Lf=>
 if decide ((Lf:Int)<(s0.l.length:Int)) then
  ((pK s0 (Lf:Int)).bind fun c3=>
  (OY c3).bind fun y5=>
  if decide (y5≠4) then
   (some false)
  else
   (bA (Lf+1)))
 else
  (acT s0 ())
def Uv(s0:Str):Option Bool:=
 bq (decide ((s0.l.length:Int)≤9223372036854775807))<|
 iter (Uu s0) FUEL 0
theorem ar1(S:bO)(w:World)(s0:Str)(y:Bool)(hM:Uv s0=some y)(hS:sB S w):
   Calls Tryz.prog 113 #[.string s0.ba] w (dz w (.bool y)):=by
 refine cu (args:=[_]) Tryz.func113 rfl ((pre_nil hS).start) rfl ?_;unfold Uv at hM;refine bI ?_;refine aK fun K2 hK2=>?_;refine aW ?_;obtain⟨hl1,hM⟩:=bW hM;replace hl1:=of_decide_eq_true hl1;refine oe vO ?_;refine om ?_;refine on ?_;refine bH ?_;refine lq hM (fun Lf=>[(0,.v (.string s0.ba)),(5,eI (s0.l.length:Int)),(6,eI (Lf:Int))]) (fun Lf=>[]) sS rI ?_;clear hM;rintro bA Lf hM iG hL1;dsimp only[Uu] at hM ⊢;refine sr ?_;refine oe bY ?_;refine on ?_;refine aK fun K5 dI=>?_;refine cc rfl hM (fun hc2 hM=>?_) (fun hc2 hM=>?_)
 ·have Vu:=of_decide_eq_true hc2;refine aX (dI _ _ ?_);clear dI;refine aK fun K6 dn=>?_;refine bH ?_;refine aW ?_;refine aT ?_;refine aW ?_;refine om ?_;obtain⟨c3,amc,hM⟩:=bind_some hM;refine oe (tT (fun _=>amc)) ?_;obtain⟨y5,ug,hM⟩:=bind_some hM;refine cv (fun hs=>arZ _ _ c3 y5 ug (bf hs)) ?_;refine oe gZ ?_;refine on ?_;refine cc rfl hM (fun oJ hM=>?_) (fun oJ hM=>?_)
  · refine bI ?_;exact aY (bQ hM)
  refine aX (dn _ _ ?_);clear dn;refine bB ?_;refine oe (eH (hr:=fun _=>by unfold gF;omega)) ?_;refine om ?_;refine bC (hL1 hM sS rI)
 refine dK (hK2 _ _ ?_);clear hK2;dsimp only[acT] at hM;refine aW ?_;refine oe P8 ?_;refine aT ?_;exact aY (bQ hM)
def OV(x10:Str)(fE:((List UInt8)×Nat)→Option Str)(zl:Nat):(List UInt8)→Option Str:=fun G6=>
 bq (decide (G6.length+x10.l.length≤140737488355328))<|
 fE ((G6++x10.l),zl+1)
def acS(bA:((List UInt8)×Nat)→Option Str)(wX:List UInt8)(gL:Nat):Unit→Option Str:=fun _=>
 bA ((wX++[u8 10]),gL+1)
def Ur(wX:List UInt8)(bA:((List UInt8)×Nat)→Option Str)(gL:Nat):Unit→Option Str:=fun _=>
 bq (decide ((wX.length+1)*1≤140737488355328))<|
 acS bA wX gL ()
def OU(x5:List Str)(bA:((List UInt8)×Nat)→Option Str)(gL:Nat)(fE:((List UInt8)×Nat)→Option Str):((List UInt8)×Nat)→Option Str:=fun (wX,zl)=>
 if decide ((zl:Int)<(x5.length:Int)) then
  ((idx x5 (zl:Int)).bind fun x10=>
  (Uv x10).bind fun wF=>
  if (!wF) then
   (some (⟨[]⟩:Str))
  else
   (if decide (0<(zl:Int)) then
    (bq (decide ((wX.length+1)*1≤140737488355328))<|
    OV x10 fE zl (wX++[u8 32]))
   else
    (OV x10 fE zl wX)))
 else
  (Ur wX bA gL ())
def aij(Ej:List UInt8):Unit→Option Str:=fun _=>
 some (⟨Ej⟩:Str)
def Uq(l0:List (List Str))(bA:((List UInt8)×Nat)→Option Str):((List UInt8)×Nat)→Option Str:=fun (Ej,gL)=>
 if decide ((gL:Int)<(l0.length:Int)) then
  ((idx l0 (gL:Int)).bind fun x5=>
  if (decide ((x5.length:Int)=0)||decide (64<(x5.length:Int))) then
   (some (⟨[]⟩:Str))
  else
   (iter (OU x5 bA gL) FUEL (Ej,0)))
 else
  (aij Ej ())
def I4(l0:List (List Str)):Option Str:=
 iter (Uq l0) FUEL (([]:List UInt8),0)
theorem arY(S:bO)(w:World)(l0:List (List Str))(ay:aC.R (List (List Str)))(y:Str)(hM:I4 l0=some y)(hS:sB S w)(dZ:aC.ok S w ay l0):
   Calls Tryz.prog 50 #[sL ay l0] w (dz w (.string y.ba)):=by
 refine cu (args:=[_]) Tryz.func50 rfl ((pre_nil hS).start |>.gW (α:=List (List Str)) (r:=ay) (x:=l0) dZ) rfl ?_;unfold I4 at hM;refine bI ?_;refine sr ?_;refine oA rfl fun b1=>?_;refine mU (fun w hm=>hm.dR (α:=UInt8) 5 (fun _=>())) ?_;refine on ?_;refine aK fun K3 hK3=>?_;refine aW ?_;refine mF (fun w hm=>Kn.len (kG l0 ay) hm) fun hl3=>?_;refine oe bL ?_;refine om ?_;refine on ?_;refine bH ?_;refine lp (false,aps) hM (fun (Ej,gL) (Uo,Oy)=>[(3,eP b1),(8,eS ay l0),(9,eI (l0.length:Int)),(10,eI (gL:Int))]) (fun (Ej,gL) (Uo,Oy)=>[aj 5 Oy Ej,own b1 176 [qO Uo b1,sL Oy Ej],iL l0 ay]) sS rI ?_;clear hM;rintro bA ⟨Ej,gL⟩ ⟨Uo,Oy⟩ hM iG hL1;dsimp only[Uq] at hM ⊢;refine sr ?_;refine oe bY ?_;refine on ?_
 refine aK fun K6 dn=>?_;refine cc rfl hM (fun hc4 hM=>?_) (fun hc4 hM=>?_)
 ·have Fj:=of_decide_eq_true hc4;refine aX (dn _ _ ?_);clear dn;refine aK fun K7 eu=>?_;refine bH ?_;refine sr ?_;obtain⟨x5,hx6,hM⟩:=bind_some hM;refine oe (bD (xs:=l0) 1 (kG l0 ay) (iS hx6)) ?_;refine oe (bT (i:=(gL:Int)) (xs:=l0) (y:=x5) 0 (kG l0 ay) (fun _=>hx6)) ?_;refine aT ?_;refine aK fun K9 gB=>?_;refine aW ?_;refine oe bL ?_;refine oe dU ?_;refine om ?_;refine aD rfl aL ?_;refine aD rfl bL ?_;refine aD rfl gM ?_;refine oe dQ ?_;refine on ?_;refine cc rfl hM (fun oJ hM=>?_) (fun oJ hM=>?_)
  · refine bI ?_;exact aY (bQ hM)
  refine aX (gB _ _ ?_);clear gB;refine aK fun zy jY=>?_;refine aW ?_;refine mF (fun w hm=>Kn.len ((Sk.elem (Sk.dw (α:=List (List Str)) (r:=ay) (x:=l0) hA) hx6)).kn hm) fun hl8=>?_;refine oe bL ?_;refine om ?_;refine on ?_;refine bH ?_;refine lp (Uo,Oy) hM (fun (wX,zl) (OQ,KJ)=>[(3,eP b1),(8,eS ay l0),(9,eI (l0.length:Int)),(10,eI (gL:Int)),(22,eS (ay.es (gL:Int).toNat) x5),(23,eI (x5.length:Int)),(24,eI (zl:Int))]) (fun (wX,zl) (OQ,KJ)=>[aj 5 KJ wX,own b1 176 [qO OQ b1,sL KJ wX],iL l0 ay]) sS rI ?_;clear hM;rintro fE ⟨wX,zl⟩ ⟨OQ,KJ⟩ hM wH hL2;dsimp only[OU] at hM ⊢;refine sr ?_;refine oe bY ?_;refine on ?_;refine aK fun zA jZ=>?_;refine cc rfl hM (fun qV hM=>?_) (fun qV hM=>?_)
  · have al5:=of_decide_eq_true qV;refine aX (jZ _ _ ?_);clear jZ;refine aK fun Ba kX=>?_;refine bH ?_;refine aW ?_;obtain⟨x10,qW,hM⟩:=bind_some hM;refine oe (bD (xs:=x5) 1 ((Sk.elem (Sk.dw (α:=List (List Str)) (r:=ay) (x:=l0) hA) hx6)).kn (iS qW)) ?_;refine oe (bT (i:=(zl:Int)) (xs:=x5) (y:=x10) 0 ((Sk.elem (Sk.dw (α:=List (List Str)) (r:=ay) (x:=l0) hA) hx6)).kn (fun _=>qW)) ?_;refine oa ?_;refine aT ?_;refine aK fun Gg pO=>?_;refine aW ?_;obtain⟨wF,JF,hM⟩:=bind_some hM;refine cv (fun hs=>ar1 _ _ x10 wF JF (bf hs)) ?_;refine oe fq ?_;refine on ?_;refine cc rfl hM (fun vT hM=>?_) (fun vT hM=>?_)
    ·refine bI ?_;exact aY (bQ hM)
    refine aX (pO _ _ ?_);clear pO;refine jn (Bool×(SR (aC.R UInt8))) y (k:=OV x10 fE zl) (fun G6 (X9,TM)=>[(3,eP b1),(7,.v (.string x10.ba)),(8,eS ay l0),(9,eI (l0.length:Int)),(10,eI (gL:Int)),(22,eS (ay.es (gL:Int).toNat) x5),(23,eI (x5.length:Int)),(24,eI (zl:Int))]) (fun G6 (X9,TM)=>[aj 5 TM G6,own b1 176 [qO X9 b1,sL TM G6],iL l0 ay]) ?_ ?_
    ·intro UM xP;refine aW ?_;refine oe gM ?_;refine on ?_;refine cc rfl hM (fun hc17 hM=>?_) (fun hc17 hM=>?_)
     ·refine bB ?_;obtain⟨Jv,hM⟩:=bW hM;refine bM (fJ sA (fun S w hs hP=>ada _ w b1 OQ KJ wX 32 Jv (by decide) hP) (by intro r c hc;simp only[List.mem_cons,List.not_mem_nil,or_false] at hc;rcases hc with rfl|rfl;exact Js;exact Qb (fun _ _ _ _=>trivial)) (fun yc=>?_));dsimp only[cA,nA];refine bC (xP (true,yc) hM sS rI)
     refine aX (xP (OQ,KJ) hM sS rI)
    clear hM;rintro G6 ⟨X9,TM⟩ hM;dsimp only[OV] at hM ⊢;refine bB ?_;refine om ?_;obtain⟨Qu,hM⟩:=bW hM;refine bM (fJ sA (fun S w hs hP=>air _ w b1 X9 TM G6 x10 Qu hP) (by intro r c hc;simp only[List.mem_cons,List.not_mem_nil,or_false] at hc;rcases hc with rfl|rfl;exact Js;exact Qb (fun _ _ _ _=>trivial)) (fun r16=>?_));dsimp only[cA,nA];refine bC (kX _ _ ?_);clear kX;refine bB ?_;refine oe (eH (hr:=fun _=>by unfold gF;omega)) ?_;refine om ?_;refine bC (hL2 (true,r16) hM sS rI)
  refine dK (jY _ _ ?_);clear jY;dsimp only[Ur] at hM;refine bB ?_;obtain⟨Zw,hM⟩:=bW hM;refine bM (fJ sA (fun S w hs hP=>ada _ w b1 OQ KJ wX 10 Zw (by decide) hP) (by intro r c hc;simp only[List.mem_cons,List.not_mem_nil,or_false] at hc;rcases hc with rfl|rfl;exact Js;exact Qb (fun _ _ _ _=>trivial)) (fun Aj=>?_));dsimp only[cA,nA];refine bC (eu _ _ ?_);clear eu;dsimp only[acS] at hM;refine bB ?_;refine oe (eH (hr:=fun _=>by unfold gF;omega)) ?_;refine om ?_;refine bC (hL1 (true,Aj) hM sS rI)
 refine dK (hK3 _ _ ?_);clear hK3;dsimp only[aij] at hM;refine sr ?_;refine bM (fJ sA (fun S w hs hP=>aiq _ w b1 Uo Oy Ej hP) (by intro r c hc;cases hc) (fun Ak=>?_));dsimp only[cA,nA];refine aT ?_;exact aY (bQ hM)
end Go.Proofs.YtcalibhfgdncaaaGreatDoor

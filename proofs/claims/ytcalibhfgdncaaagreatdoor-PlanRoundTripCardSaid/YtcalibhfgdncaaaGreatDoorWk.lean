/- Models of functions, and that the code computes them. -/
import Derived.Test.YtcalibhfgdncaaaGreatDoorWa
import Derived.Test.YtcalibhfgdncaaaGreatDoorBu
set_option linter.all false
namespace Go.Proofs.YtcalibhfgdncaaaGreatDoor
open Go.Dc Go.RowKit
set_option maxRecDepth 10000
def abI(s0:Str):Unit→Option Bool:=fun _=>
 some (!decide (s0=(⟨[]⟩:Str)))
def TQ(s0:Str)(aY:Nat→Option Bool):Nat→Option Bool:=fun KA=>
 if decide ((KA:Int)<(s0.l.length:Int)) then
  ((lX s0 (KA:Int)).bind fun c3=>
  (KD c3).bind fun y5=>
  if decide (y5≠4) then
   (some false)
  else
   (aY (KA+1)))
 else
  (abI s0 ())
def TR(s0:Str):Option Bool:=
 bG (decide ((s0.l.length:Int)≤9223372036854775807))<|
 iter (TQ s0) FUEL 0
theorem aqg(S:bB)(w:World)(s0:Str)(y:Bool)(hM:TR s0=some y)(hS:sB S w):
   Calls Tryz.prog 113 #[.string s0.ba] w (cu w (.bool y)):=by
 refine bP (args:=[_]) Tryz.func113 rfl ((pre_nil hS).start) rfl ?_;unfold TR at hM;refine bD ?_;refine aG fun K2 hK2=>?_;refine aO ?_;obtain⟨hl1,hM⟩:=dw hM;replace hl1:=of_decide_eq_true hl1;refine oe mZ ?_;refine om ?_;refine on ?_;refine bF ?_;refine lq hM (fun KA=>[(0,.v (.string s0.ba)),(5,eI (s0.l.length:Int)),(6,eI (KA:Int))]) (fun KA=>[]) sS rI ?_;clear hM;rintro aY KA hM gu hL1;dsimp only[TQ] at hM ⊢;refine sr ?_;refine oe cO ?_;refine on ?_;refine aG fun K5 bS=>?_;refine cc rfl hM (fun hc2 hM=>?_) (fun hc2 hM=>?_)
 ·have GH:=of_decide_eq_true hc2;refine aX (bS _ _ ?_);clear bS;refine aG fun K6 bZ=>?_;refine bF ?_;refine aO ?_;refine aP ?_;refine aO ?_;refine om ?_;obtain⟨c3,Za,hM⟩:=bind_some hM;refine oe (qp (fun _=>Za)) ?_;obtain⟨y5,kU,hM⟩:=bind_some hM;refine cv (fun hs=>aha _ _ c3 y5 kU (bC hs)) ?_;refine oe iy ?_;refine on ?_;refine cc rfl hM (fun jR hM=>?_) (fun jR hM=>?_)
  · refine bD ?_;exact aW (bN hM)
  refine aX (bZ _ _ ?_);clear bZ;refine aZ ?_;refine oe (dH (hr:=fun _=>by unfold d9;omega)) ?_;refine om ?_;refine bf (hL1 hM sS rI)
 refine dL (hK2 _ _ ?_);clear hK2;dsimp only[abI] at hM;refine aO ?_;refine oe O6 ?_;refine aP ?_;exact aW (bN hM)
def NW(x10:Str)(gN:((List UInt8)×Nat)→Option Str)(yU:Nat):(List UInt8)→Option Str:=fun GY=>
 bG (decide (GY.length+x10.l.length≤140737488355328))<|
 gN ((GY++x10.l),yU+1)
def abH(aY:((List UInt8)×Nat)→Option Str)(wE:List UInt8)(gq:Nat):Unit→Option Str:=fun _=>
 aY ((wE++[u8 10]),gq+1)
def TK(wE:List UInt8)(aY:((List UInt8)×Nat)→Option Str)(gq:Nat):Unit→Option Str:=fun _=>
 bG (decide ((wE.length+1)*1≤140737488355328))<|
 abH aY wE gq ()
def NV(x5:List Str)(aY:((List UInt8)×Nat)→Option Str)(gq:Nat)(gN:((List UInt8)×Nat)→Option Str):((List UInt8)×Nat)→Option Str:=fun (wE,yU)=>
 if decide ((yU:Int)<(x5.length:Int)) then
  ((idx x5 (yU:Int)).bind fun x10=>
  (TR x10).bind fun ru=>
  if (!ru) then
   (some (⟨[]⟩:Str))
  else
   (if decide (0<(yU:Int)) then
    (bG (decide ((wE.length+1)*1≤140737488355328))<|
    NW x10 gN yU (wE++[u8 32]))
   else
    (NW x10 gN yU wE)))
 else
  (TK wE aY gq ())
def ag6(Dx:List UInt8):Unit→Option Str:=fun _=>
 some (⟨Dx⟩:Str)
def TJ(l0:List (List Str))(aY:((List UInt8)×Nat)→Option Str):((List UInt8)×Nat)→Option Str:=fun (Dx,gq)=>
 if decide ((gq:Int)<(l0.length:Int)) then
  ((idx l0 (gq:Int)).bind fun x5=>
  if (decide ((x5.length:Int)=0)||decide (64<(x5.length:Int))) then
   (some (⟨[]⟩:Str))
  else
   (iter (NV x5 aY gq) FUEL (Dx,0)))
 else
  (ag6 Dx ())
def IK(l0:List (List Str)):Option Str:=
 iter (TJ l0) FUEL (([]:List UInt8),0)
theorem aqd(S:bB)(w:World)(l0:List (List Str))(aC:ak.R (List (List Str)))(y:Str)(hM:IK l0=some y)(hS:sB S w)(fG:ak.ok S w aC l0):
   Calls Tryz.prog 50 #[sL aC l0] w (cu w (.string y.ba)):=by
 refine bP (args:=[_]) Tryz.func50 rfl ((pre_nil hS).start |>.bU (α:=List (List Str)) (r:=aC) (x:=l0) fG) rfl ?_;unfold IK at hM;refine bD ?_;refine sr ?_;refine oA rfl fun b1=>?_;refine rQ (fun w hm=>hm.bV (α:=UInt8) 5 (fun _=>())) ?_;refine on ?_;refine aG fun K3 hK3=>?_;refine aO ?_;refine iO (fun w hm=>Kn.len (kG l0 aC) hm) fun hl3=>?_;refine oe bJ ?_;refine om ?_;refine on ?_;refine bF ?_;refine lp (false,amJ) hM (fun (Dx,gq) (TI,Nz)=>[(3,eP b1),(8,eS aC l0),(9,eI (l0.length:Int)),(10,eI (gq:Int))]) (fun (Dx,gq) (TI,Nz)=>[ah 5 Nz Dx,own b1 176 [qm TI b1,sL Nz Dx],iL l0 aC]) sS rI ?_;clear hM;rintro aY ⟨Dx,gq⟩ ⟨TI,Nz⟩ hM gu hL1;dsimp only[TJ] at hM ⊢;refine sr ?_;refine oe cO ?_;refine on ?_
 refine aG fun K6 bZ=>?_;refine cc rfl hM (fun hc4 hM=>?_) (fun hc4 hM=>?_)
 ·have EL:=of_decide_eq_true hc4;refine aX (bZ _ _ ?_);clear bZ;refine aG fun K7 dZ=>?_;refine bF ?_;refine sr ?_;obtain⟨x5,hx6,hM⟩:=bind_some hM;refine oe (bI (xs:=l0) 1 (kG l0 aC) (iS hx6)) ?_;refine oe (dh (i:=(gq:Int)) (xs:=l0) (y:=x5) 0 (kG l0 aC) (fun _=>hx6)) ?_;refine aP ?_;refine aG fun K9 dU=>?_;refine aO ?_;refine oe bJ ?_;refine oe eu ?_;refine om ?_;refine av rfl aH ?_;refine av rfl bJ ?_;refine av rfl iw ?_;refine oe eT ?_;refine on ?_;refine cc rfl hM (fun jR hM=>?_) (fun jR hM=>?_)
  · refine bD ?_;exact aW (bN hM)
  refine aX (dU _ _ ?_);clear dU;refine aG fun CX lZ=>?_;refine aO ?_;refine iO (fun w hm=>Kn.len ((Sk.elem (Sk.dW (α:=List (List Str)) (r:=aC) (x:=l0) hA) hx6)).kn hm) fun hl8=>?_;refine oe bJ ?_;refine om ?_;refine on ?_;refine bF ?_;refine lp (TI,Nz) hM (fun (wE,yU) (NT,Kq)=>[(3,eP b1),(8,eS aC l0),(9,eI (l0.length:Int)),(10,eI (gq:Int)),(22,eS (aC.es (gq:Int).toNat) x5),(23,eI (x5.length:Int)),(24,eI (yU:Int))]) (fun (wE,yU) (NT,Kq)=>[ah 5 Kq wE,own b1 176 [qm NT b1,sL Kq wE],iL l0 aC]) sS rI ?_;clear hM;rintro gN ⟨wE,yU⟩ ⟨NT,Kq⟩ hM BD hL2;dsimp only[NV] at hM ⊢;refine sr ?_;refine oe cO ?_;refine on ?_;refine aG fun CY l7=>?_;refine cc rfl hM (fun uV hM=>?_) (fun uV hM=>?_)
  · have akm:=of_decide_eq_true uV;refine aX (l7 _ _ ?_);clear l7;refine aG fun F6 oL=>?_;refine bF ?_;refine aO ?_;obtain⟨x10,yE,hM⟩:=bind_some hM;refine oe (bI (xs:=x5) 1 ((Sk.elem (Sk.dW (α:=List (List Str)) (r:=aC) (x:=l0) hA) hx6)).kn (iS yE)) ?_;refine oe (dh (i:=(yU:Int)) (xs:=x5) (y:=x10) 0 ((Sk.elem (Sk.dW (α:=List (List Str)) (r:=aC) (x:=l0) hA) hx6)).kn (fun _=>yE)) ?_;refine oa ?_;refine aP ?_;refine aG fun F7 oM=>?_;refine aO ?_;obtain⟨ru,EO,hM⟩:=bind_some hM;refine cv (fun hs=>aqg _ _ x10 ru EO (bC hs)) ?_;refine oe fF ?_;refine on ?_;refine cc rfl hM (fun zl hM=>?_) (fun zl hM=>?_)
    ·refine bD ?_;exact aW (bN hM)
    refine aX (oM _ _ ?_);clear oM;refine jn (Bool×(SR (ak.R UInt8))) y (k:=NW x10 gN yU) (fun GY (Xv,SG)=>[(3,eP b1),(7,.v (.string x10.ba)),(8,eS aC l0),(9,eI (l0.length:Int)),(10,eI (gq:Int)),(22,eS (aC.es (gq:Int).toNat) x5),(23,eI (x5.length:Int)),(24,eI (yU:Int))]) (fun GY (Xv,SG)=>[ah 5 SG GY,own b1 176 [qm Xv b1,sL SG GY],iL l0 aC]) ?_ ?_
    ·intro XQ BN;refine aO ?_;refine oe iw ?_;refine on ?_;refine cc rfl hM (fun hc17 hM=>?_) (fun hc17 hM=>?_)
     ·refine aZ ?_;obtain⟨YX,hM⟩:=dw hM;refine bn (eU sA (fun S w hs hP=>abM _ w b1 NT Kq wE 32 YX (by decide) hP) (by intro r c hc;simp only[List.mem_cons,List.not_mem_nil,or_false] at hc;rcases hc with rfl|rfl;exact EG;exact Li (fun _ _ _ _=>trivial)) (fun uH=>?_));dsimp only[cA,nA];refine bf (BN (true,uH) hM sS rI)
     refine aX (BN (NT,Kq) hM sS rI)
    clear hM;rintro GY ⟨Xv,SG⟩ hM;dsimp only[NW] at hM ⊢;refine aZ ?_;refine om ?_;obtain⟨YV,hM⟩:=dw hM;refine bn (eU sA (fun S w hs hP=>ahk _ w b1 Xv SG GY x10 YV hP) (by intro r c hc;simp only[List.mem_cons,List.not_mem_nil,or_false] at hc;rcases hc with rfl|rfl;exact EG;exact Li (fun _ _ _ _=>trivial)) (fun r16=>?_));dsimp only[cA,nA];refine bf (oL _ _ ?_);clear oL;refine aZ ?_;refine oe (dH (hr:=fun _=>by unfold d9;omega)) ?_;refine om ?_;refine bf (hL2 (true,r16) hM sS rI)
  refine dL (lZ _ _ ?_);clear lZ;dsimp only[TK] at hM;refine aZ ?_;obtain⟨YZ,hM⟩:=dw hM;refine bn (eU sA (fun S w hs hP=>abM _ w b1 NT Kq wE 10 YZ (by decide) hP) (by intro r c hc;simp only[List.mem_cons,List.not_mem_nil,or_false] at hc;rcases hc with rfl|rfl;exact EG;exact Li (fun _ _ _ _=>trivial)) (fun uI=>?_));dsimp only[cA,nA];refine bf (dZ _ _ ?_);clear dZ;dsimp only[abH] at hM;refine aZ ?_;refine oe (dH (hr:=fun _=>by unfold d9;omega)) ?_;refine om ?_;refine bf (hL1 (true,uI) hM sS rI)
 refine dL (hK3 _ _ ?_);clear hK3;dsimp only[ag6] at hM;refine sr ?_;refine bn (eU sA (fun S w hs hP=>ahj _ w b1 TI Nz Dx hP) (by intro r c hc;cases hc) (fun xQ=>?_));dsimp only[cA,nA];refine aP ?_;exact aW (bN hM)
end Go.Proofs.YtcalibhfgdncaaaGreatDoor

/- Models of functions, and that the code computes them. -/
import Derived.Test.YtcalibhfgdncaaaGreatDoorTypes
set_option linter.all false
namespace Go.Proofs.YtcalibhfgdncaaaGreatDoor
open Go.Dc Go.RowKit
set_option maxRecDepth 10000
def VZ(c0:Int):Option Bool:=
 some (decide (48≤c0)&&decide (c0≤57))
theorem afG(S:bB)(w:World)(c0:Int)(y:Bool)(hM:VZ c0=some y)(hS:sB S w):
  Calls Tryz.prog 166 #[.int .u8 c0] w (cu w (.bool y)):=by
 refine bP (args:=[_]) Tryz.func166 rfl ((pre_nil hS).start) rfl ?_;unfold VZ at hM;refine bD ?_;refine aO ?_;refine oe jf ?_;refine om ?_;refine av rfl aH ?_;refine av rfl pU ?_;refine oe dI ?_;refine aP ?_;exact aW (bN hM)
def afT(nT:List Str):Unit→Option (List Str):=fun _=>
 some nT
def afS(l0:Layout)(aY:((List Str)×Nat)→Option (List Str)):((List Str)×Nat)→Option (List Str):=fun (nT,bM)=>
 if decide ((bM:Int)<(l0.Sections.length:Int)) then
  ((idx l0.Sections (bM:Int)).bind fun x4=>
  bG (decide ((nT.length+([x4.Name]:List Str).length)*16≤140737488355328))<|
  bG (bW ((bM:Int)+1))<|
  aY ((nT++([x4.Name]:List Str)),bM+1))
 else
  (afT nT ())
def V8(l0:Layout):Option (List Str):=
 iter (afS l0) FUEL (([]:List Str),0)
theorem afU(S:bB)(w:World)(l0:Layout)(aC:ak.R Layout)(y:(List Str))(hM:V8 l0=some y)(hS:sB S w)(fG:ak.ok S w aC l0):
   Calls Tryz.prog 52 #[.agg (lC l0 aC)] w (Post (β:=(ak.R (List Str))) S [] (fun g=>sL g y) (fun g=>[ah 9 g y]) w):=by
 refine bP (args:=[_]) Tryz.func52 rfl ((pre_nil hS).start |>.lS fG) rfl ?_;unfold V8 at hM;refine sr ?_;refine oB (dP l0 aC) fun b1=>?_;refine aP ?_;refine bD ?_;refine aG fun K3 hK3=>?_;refine bD ?_;refine bF ?_;refine bQ (fun w hm=>hm.bV (α:=Str) 9 (fun _=>())) ?_;refine lp je hM (fun (nT,bM) wO=>[(1,eP b1),(3,eS wO nT),(4,eI (bM:Int))]) (fun (nT,bM) wO=>[iL l0.aM aC.1,iL l0.aV aC.2.1,iL l0.Sections aC.2.2.1,iL l0.Links aC.2.2.2,own b1 26 (dP l0 aC),ah 9 wO nT]) sS rI ?_
 clear hM;rintro aY ⟨nT,bM⟩ wO hM gu hL1;dsimp only[afS] at hM ⊢;refine aG fun K5 bS=>?_;refine aO ?_;refine oe (aD 2) ?_;refine oe (aJ (b:=b1)) ?_;refine oe bJ ?_;refine oe cO ?_;refine on ?_;refine cc rfl hM (fun hc3 hM=>?_) (fun hc3 hM=>?_)
 ·refine aX (bS _ _ ?_);clear bS;refine aG fun K7 dZ=>?_;refine bF ?_;refine aZ ?_;refine om ?_;refine oe (aD 2) ?_;refine oe (aJ (b:=b1)) ?_;refine om ?_;obtain⟨x4,hx5,hM⟩:=bind_some hM;refine oe (bI (xs:=l0.Sections) 5 (kG l0.Sections aC.2.2.1) (iS hx5)) ?_;refine oe (aD 0) ?_;refine oe (dh (i:=(bM:Int)) (xs:=l0.Sections) (y:=x4) 0 (kG l0.Sections aC.2.2.1) (fun _=>hx5)) ?_;refine bn (eX (α:=Str) 9 (fun _=>()) ([x4.Name]:List Str) oF (fun r6=>?_));obtain⟨Y4,hM⟩:=dw hM;refine bn (iP (r:=wO) (r2:=r6) uR (Kn.ah (e:=9) (r:=r6) hA) oF (of_decide_eq_true Y4) (fun r7=>?_));refine oa ?_;refine bf (dZ _ _ ?_);clear dZ;refine aZ ?_;refine om ?_;refine oP hM fun hM=>?_;refine oa ?_;refine bf (hL1 r7 hM sS rI)
 refine dL (hK3 _ _ ?_);clear hK3;dsimp only[afT] at hM;refine aO ?_;refine aP ?_;obtain rfl:=some_inj hM;refine aW (jE (fun w hm=>dO wO hm rfl))
end Go.Proofs.YtcalibhfgdncaaaGreatDoor

/- Models of functions, and that the code computes them. -/
import Derived.Test.YtcalibhfgdncaaaGreatDoorTypes
set_option linter.all false
namespace Go.Proofs.YtcalibhfgdncaaaGreatDoor
open Go.Dc Go.RowKit
set_option maxRecDepth 10000
def SA(c0:Int):Option Bool:=
 some (decide (48≤c0)&&decide (c0≤57))
theorem ag7(S:bO)(w:World)(c0:Int)(y:Bool)(hM:SA c0=some y)(hS:sB S w):
  Calls Tryz.prog 166 #[.int .u8 c0] w (dz w (.bool y)):=by
 refine cu (args:=[_]) Tryz.func166 rfl ((pre_nil hS).start) rfl ?_;unfold SA at hM;refine bI ?_;refine aW ?_;refine oe jK ?_;refine om ?_;refine aD rfl aL ?_;refine aD rfl oI ?_;refine oe dG ?_;refine aT ?_;exact aY (bQ hM)
def abX(oO:List Str):Unit→Option (List Str):=fun _=>
 some oO
def SI(l0:Layout)(bA:((List Str)×Nat)→Option (List Str)):((List Str)×Nat)→Option (List Str):=fun (oO,bg)=>
 if decide ((bg:Int)<(l0.Sections.length:Int)) then
  ((idx l0.Sections (bg:Int)).bind fun x4=>
  bq (decide ((oO.length+([x4.Name]:List Str).length)*16≤140737488355328))<|
  bq (bJ ((bg:Int)+1))<|
  bA ((oO++([x4.Name]:List Str)),bg+1))
 else
  (abX oO ())
def NV(l0:Layout):Option (List Str):=
 iter (SI l0) FUEL (([]:List Str),0)
theorem ahe(S:bO)(w:World)(l0:Layout)(ay:aC.R Layout)(y:(List Str))(hM:NV l0=some y)(hS:sB S w)(dZ:aC.ok S w ay l0):
   Calls Tryz.prog 52 #[.agg (jN l0 ay)] w (Post (β:=(aC.R (List Str))) S [] (fun g=>sL g y) (fun g=>[aj 9 g y]) w):=by
 refine cu (args:=[_]) Tryz.func52 rfl ((pre_nil hS).start |>.lY dZ) rfl ?_;unfold NV at hM;refine sr ?_;refine oB (cK l0 ay) fun b1=>?_;refine aT ?_;refine bI ?_;refine aK fun K3 hK3=>?_;refine bI ?_;refine bH ?_;refine cZ (fun w hm=>hm.dR (α:=Str) 9 (fun _=>())) ?_;refine lp jT hM (fun (oO,bg) xk=>[(1,eP b1),(3,eS xk oO),(4,eI (bg:Int))]) (fun (oO,bg) xk=>[iL l0.aU ay.1,iL l0.bG ay.2.1,iL l0.Sections ay.2.2.1,iL l0.Links ay.2.2.2,own b1 26 (cK l0 ay),aj 9 xk oO]) sS rI ?_
 clear hM;rintro bA ⟨oO,bg⟩ xk hM iG hL1;dsimp only[SI] at hM ⊢;refine aK fun K5 dI=>?_;refine aW ?_;refine oe (av 2) ?_;refine oe (aF (b:=b1)) ?_;refine oe bL ?_;refine oe bY ?_;refine on ?_;refine cc rfl hM (fun hc3 hM=>?_) (fun hc3 hM=>?_)
 ·refine aX (dI _ _ ?_);clear dI;refine aK fun K7 eu=>?_;refine bH ?_;refine bB ?_;refine om ?_;refine oe (av 2) ?_;refine oe (aF (b:=b1)) ?_;refine om ?_;obtain⟨x4,hx5,hM⟩:=bind_some hM;refine oe (bD (xs:=l0.Sections) 5 (kG l0.Sections ay.2.2.1) (iS hx5)) ?_;refine oe (av 0) ?_;refine oe (bT (i:=(bg:Int)) (xs:=l0.Sections) (y:=x4) 0 (kG l0.Sections ay.2.2.1) (fun _=>hx5)) ?_;refine bM (fD (α:=Str) 9 (fun _=>()) ([x4.Name]:List Str) oF (fun r6=>?_));obtain⟨ZA,hM⟩:=bW hM;refine bM (jc (r:=xk) (r2:=r6) uR (Kn.aj (e:=9) (r:=r6) hA) oF (of_decide_eq_true ZA) (fun r7=>?_));refine oa ?_;refine bC (eu _ _ ?_);clear eu;refine bB ?_;refine om ?_;refine oP hM fun hM=>?_;refine oa ?_;refine bC (hL1 r7 hM sS rI)
 refine dK (hK3 _ _ ?_);clear hK3;dsimp only[abX] at hM;refine aW ?_;refine aT ?_;obtain rfl:=some_inj hM;refine aY (mD (fun w hm=>fU xk hm rfl))
end Go.Proofs.YtcalibhfgdncaaaGreatDoor

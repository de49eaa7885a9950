/- Models of functions, and that the code computes them. -/
import Derived.Test.YtcalibhfgdncaaaGreatTypes
set_option linter.all false
namespace Go.Proofs.YtcalibhfgdncaaaGreat
open Go.Dc Go.RowKit
set_option maxRecDepth 10000
def Vh(c0:Int):Option Bool:=
 some (decide (48≤c0)&&decide (c0≤57))
theorem amw(S:bF)(w:World)(c0:Int)(y:Bool)(hM:Vh c0=some y)(hS:sB S w):
  Calls Tryz.prog 111 #[.int .u8 c0] w (dw w (.bool y)):=by
 refine bW (args:=[_]) Tryz.func111 rfl ((pre_nil hS).start) rfl ?_;unfold Vh at hM;refine bg ?_;refine aJ ?_;refine oe ig ?_;refine om ?_;refine au rfl aH ?_;refine au rfl kD ?_;refine oe dB ?_;refine aL ?_;exact aP (bD hM)
def aaF(tT:List Str):Unit→Option (List Str):=fun _=>
 some tT
def Ra(l0:Layout)(aN:((List Str)×Nat)→Option (List Str)):((List Str)×Nat)→Option (List Str):=fun (tT,bI)=>
 if decide ((bI:Int)<(l0.Sections.length:Int)) then
  ((idx l0.Sections (bI:Int)).bind fun x4=>
  aX (decide ((tT.length+([x4.Name]:List Str).length)*16≤140737488355328))<|
  aX (bA ((bI:Int)+1))<|
  aN ((tT++([x4.Name]:List Str)),bI+1))
 else
  (aaF tT ())
def Rb(l0:Layout):Option (List Str):=
 iter (Ra l0) FUEL (([]:List Str),0)
theorem amy(S:bF)(w:World)(l0:Layout)(aG:ak.R Layout)(y:(List Str))(hM:Rb l0=some y)(hS:sB S w)(eT:ak.ok S w aG l0):
   Calls Tryz.prog 82 #[.agg (lX l0 aG)] w (Post (β:=(ak.R (List Str))) S [] (fun g=>sL g y) (fun g=>[ah 9 g y]) w):=by
 refine bW (args:=[_]) Tryz.func82 rfl ((pre_nil hS).start |>.ny eT) rfl ?_;unfold Rb at hM;refine sr ?_;refine oB (eD l0 aG) fun b1=>?_;refine aL ?_;refine bg ?_;refine aF fun K3 hK3=>?_;refine bg ?_;refine aV ?_;refine dJ (fun w hm=>hm.dR (α:=Str) 9 (fun _=>())) ?_;refine lp oJ hM (fun (tT,bI) Bq=>[(1,eP b1),(3,eS Bq tT),(4,eI (bI:Int))]) (fun (tT,bI) Bq=>[iL l0.bB aG.1,iL l0.bN aG.2.1,iL l0.Sections aG.2.2.1,iL l0.Links aG.2.2.2,own b1 27 (eD l0 aG),ah 9 Bq tT]) sS rI ?_
 clear hM;rintro aN ⟨tT,bI⟩ Bq hM fQ hL1;dsimp only[Ra] at hM ⊢;refine aF fun K5 bT=>?_;refine aJ ?_;refine oe (ay 2) ?_;refine oe (aD (b:=b1)) ?_;refine oe bf ?_;refine oe bK ?_;refine on ?_;refine cc rfl hM (fun hc3 hM=>?_) (fun hc3 hM=>?_)
 ·refine aM (bT _ _ ?_);clear bT;refine aF fun K7 eU=>?_;refine aV ?_;refine aT ?_;refine om ?_;refine oe (ay 2) ?_;refine oe (aD (b:=b1)) ?_;refine om ?_;obtain⟨x4,hx5,hM⟩:=bind_some hM;refine oe (aQ (xs:=l0.Sections) 5 (kG l0.Sections aG.2.2.1) (iS hx5)) ?_;refine oe (ay 0) ?_;refine oe (bE (i:=(bI:Int)) (xs:=l0.Sections) (y:=x4) 0 (kG l0.Sections aG.2.2.1) (fun _=>hx5)) ?_;refine aY (fH (α:=Str) 9 (fun _=>()) ([x4.Name]:List Str) oF (fun r6=>?_));obtain⟨hb8,hM⟩:=bQ hM;refine aY (jy (r:=Bq) (r2:=r6) uR (Kn.ah (e:=9) (r:=r6) hA) oF (of_decide_eq_true hb8) (fun r7=>?_));refine oa ?_;refine aU (eU _ _ ?_);clear eU;refine aT ?_;refine om ?_;refine oP hM fun hM=>?_;refine oa ?_;refine aU (hL1 r7 hM sS rI)
 refine bX (hK3 _ _ ?_);clear hK3;dsimp only[aaF] at hM;refine aJ ?_;refine aL ?_;obtain rfl:=some_inj hM;refine aP (tO (fun w hm=>gK Bq hm rfl))
end Go.Proofs.YtcalibhfgdncaaaGreat

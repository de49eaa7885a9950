/- Functions: models, proved of the code. -/
import Derived.Test.YtcalibhfgdncaaaGreatDoorTypes
namespace Go.Proofs.YtcalibhfgdncaaaGreatDoor
open Go.Dc Go.RowKit
set_option maxRecDepth 10000
set_option linter.all false
def MN(c0:Int):Option Bool:=
 some (decide (48≤c0)&&decide (c0≤57))
theorem ajP(S:aW)(w:World)(c0:Int)(y:Bool)(hM:MN c0=some y)(hS:sB S w):
  Calls Tryz.prog 166 #[.int .u8 c0] w (bM w (.bool y)):=by
 refine bF (args:=[_]) Tryz.func166 rfl ((pre_nil hS).start) rfl ?_;unfold MN at hM;refine aJ ?_;refine aR ?_;refine oe IE ?_;refine om ?_;refine bY rfl dJ ?_;refine bY rfl ag7 ?_;refine oe rR ?_;refine aN ?_;exact aF (aZ hM)
def ae3(kV:List Str):Unit→Option (List Str):=fun _=>
 some kV
def Vw(l0:Layout)(aK:((List Str)×Nat)→Option (List Str)):((List Str)×Nat)→Option (List Str):=fun (kV,aH)=>
 if decide ((aH:Int)<(l0.Sections.length:Int)) then
  ((idx l0.Sections (aH:Int)).bind fun x4=>
  aO (decide ((kV.length+([x4.Name]:List Str).length)*16≤140737488355328))<|
  aO (aX ((aH:Int)+1))<|
  aK ((kV++([x4.Name]:List Str)),aH+1))
 else
  (ae3 kV ())
def Qc(l0:Layout):Option (List Str):=
 iter (Vw l0) FUEL (([]:List Str),0)
theorem ajU(S:aW)(w:World)(l0:Layout)(aD:ah.R Layout)(y:(List Str))(hM:Qc l0=some y)(hS:sB S w)(dQ:ah.ok S w aD l0):
   Calls Tryz.prog 52 #[.agg (jy l0 aD)] w (Post (β:=(ah.R (List Str))) S [] (fun g=>sL g y) (fun g=>[aj 9 g y]) w):=by
 refine bF (args:=[_]) Tryz.func52 rfl ((pre_nil hS).start |>.je dQ) rfl ?_;unfold Qc at hM;refine sr ?_;refine oB (iR l0 aD) fun b1=>?_;refine aN ?_;refine aJ ?_;refine au fun K3 hK3=>?_;refine aJ ?_;refine bI ?_;refine rn Str 9 (fun _=>()) ?_;refine lr uG hM [1] (fun (kV,aH) sM=>[(3,eS sM kV),(4,eI (aH:Int))]) [0] (fun (kV,aH) sM=>[aj 9 sM kV]) ?_;clear hM;rintro aK ⟨kV,aH⟩ sM hM eO hL1;dsimp only[Vw,cA,nA] at hM ⊢;refine au fun K5 dx=>?_;refine aR ?_
 refine fo 2 ?_;refine oe jq ?_;refine oe gq ?_;refine oc hM (fun hc3 hM=>?_) (fun hc3 hM=>?_)
 ·refine cs dx ?_;refine au fun K7 gu=>?_;refine bI ?_;refine bg ?_;refine om ?_;refine fo 2 ?_;refine om ?_;refine ix 5 0 (kG l0.Sections aD.2.2.1) hM fun x4 hx5 hM=>?_;refine bf (fI (α:=Str) 9 (fun _=>()) ([x4.Name]:List Str) oF (fun r6=>?_));obtain⟨hb8,hM⟩:=bQ hM;refine bf (iq (r:=sM) (r2:=r6) uR (Kn.aj (e:=9) (r:=r6) hA) oF (of_decide_eq_true hb8) (fun r7=>?_));refine oa ?_;refine bq (gu _ _ ?_);refine bg ?_;refine om ?_;refine oP hM fun hM=>?_;refine oa ?_;refine bq (hL1 r7 hM sS rI)
 refine cx hK3 ?_;dsimp only[ae3] at hM;refine aR ?_;refine aN ?_;obtain rfl:=some_inj hM;refine aF (eG (fun w hm=>bR sM hm rfl))
end Go.Proofs.YtcalibhfgdncaaaGreatDoor

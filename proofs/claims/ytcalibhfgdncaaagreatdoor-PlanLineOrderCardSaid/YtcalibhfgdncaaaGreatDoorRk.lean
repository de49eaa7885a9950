/- Functions: models, proved of the code. -/
import Derived.Test.YtcalibhfgdncaaaGreatDoorTypes
namespace Go.Proofs.YtcalibhfgdncaaaGreatDoor
open Go.Dc Go.RowKit
set_option maxRecDepth 10000
set_option linter.all false
def LH(v0:Int)(n0:Int):Option Int:=
 aO (decide ((IntKind.u64.wrap n0)≠0))<|
 some (IntKind.i64.wrap ((IntKind.u64.wrap v0).tmod (IntKind.u64.wrap n0)))
theorem adC(S:aW)(w:World)(v0:Int)(n0:Int)(y:Int)(hM:LH v0 n0=some y)(hS:sB S w):
  Calls Tryz.prog 16 #[vI v0,vI n0] w (bM w (vI y)):=by
 refine bF (args:=[_,_]) Tryz.func16 rfl ((pre_nil hS).start) rfl ?_;unfold LH at hM;refine aJ ?_;refine aR ?_;refine oe (IC .u64) ?_;refine om ?_;refine oe (IC .u64) ?_;obtain⟨hI1,hM⟩:=bQ hM;refine oe (Au (hq:=fun hg=>of_decide_eq_true hI1)) ?_;refine oe (IC .i64) ?_;refine aN ?_;exact aF (aZ hM)
def Y3(l0:List Int):Option bN:=
 some (bN.mk l0 0)
theorem ar5(S:aW)(w:World)(l0:List Int)(aD:ah.R (List Int))(y:bN)(hM:Y3 l0=some y)(hS:sB S w)(dQ:ah.ok S w aD l0):
  Calls Tryz.prog 25 #[sL aD l0] w (Post (β:=Nat×(ah.R (List Int))) S [] (fun g=>vP g.1) (fun g=>[own g.1 136 (D8 y g.2),iL y.l g.2]) w):=by
 refine bF (args:=[_]) Tryz.func25 rfl ((pre_nil hS).start |>.bG dQ) rfl ?_;unfold Y3 at hM;refine aJ ?_;refine aR ?_;refine oe (dO [sL aD l0,vI 0]) ?_;refine oB [sL aD l0,vI 0] fun b1=>?_;refine aN ?_;obtain rfl:=some_inj hM;refine aF (eG (fun w hm=>bR (b1,aD) hm rfl))
def jY(s0:bN)(n0:Int):Option (Int×Int):=
 if decide ((s0.l.length:Int)≤s0.i) then
  (some (0,s0.i))
 else
  (aO (aX (s0.i+1))<|
  aO (aX ((s0.i+1)-1))<|
  (idx s0.l ((s0.i+1)-1)).bind fun x4=>
  (LH x4 n0).bind fun y6=>
  some (y6,(s0.i+1)))
theorem iI(S:aW)(w:World)(iE:Nat)(s0:bN)(dh:ah.R bN)(n0:Int)(y:Int×Int)(hM:jY s0 n0=some y)(hP:Pre S [own iE 136 (D8 s0 dh)] w)(Gi:ah.ok (α:=List Int) S w dh s0.l):
   Calls Tryz.prog 27 #[vP iE,vI n0] w (Post (β:=Unit) S [own iE 136 (D8 s0 dh)] (fun g=>vI y.1) (fun g=>[own iE 136 [sL dh s0.l,vI y.2]]) w):=by
 refine bF (args:=[_,_]) Tryz.func27 rfl (hP.start |>.bG Gi) rfl ?_;unfold jY at hM;refine aJ ?_;refine au fun K2 hK2=>?_;refine au fun K3 hK3=>?_;refine dS _ (List.Sublist.refl _) ?_;refine am 0 ?_;refine ay 1 rfl dF ?_;refine fa 2 1 ?_;refine am 4 ?_;refine ay 5 rfl dF ?_;refine fa 6 0 ?_;refine ay 8 rfl jq ?_;refine ay 9 rfl IE ?_;refine bS (hK3 _ _ ?_);refine co hM (fun hc1 hM=>?_) (fun hc1 hM=>?_)
 ·refine aJ ?_;obtain rfl:=some_inj hM;refine aF (eG (fun w hm=>bR () hm rfl))
 refine cs hK2 ?_;refine aR ?_;refine oe dF ?_;refine fo 1 ?_;refine oP hM fun hM=>?_;refine oe dF ?_;refine oe (aY 1) ?_;refine kY ?_;refine on ?_;refine au fun K6 dG=>?_;refine dS _ (List.Sublist.refl _) ?_;refine am 0 ?_;refine ay 1 rfl dF ?_;refine fa 2 0 ?_;refine am 4 ?_;refine ay 5 rfl dF ?_;refine fa 6 1 ?_;obtain⟨hI3,hM⟩:=bQ hM;refine ay 8 rfl (pW (hr:=fun hg=>dU hI3)) ?_;refine ET 9 1 (kG s0.l dh) hM fun x4 hx5 hM=>?_;refine am 11 ?_;obtain⟨y6,nS,hM⟩:=bind_some hM;refine bT 12 rfl (sV (fun hs=>adC _ _ x4 n0 y6 nS (aM hs)) ⟨rI,?_⟩);refine ay 13 rfl eX ?_;refine bS (dG _ _ ?_)
 obtain rfl:=some_inj hM;refine aF (eG (fun w hm=>bR () hm rfl))
end Go.Proofs.YtcalibhfgdncaaaGreatDoor

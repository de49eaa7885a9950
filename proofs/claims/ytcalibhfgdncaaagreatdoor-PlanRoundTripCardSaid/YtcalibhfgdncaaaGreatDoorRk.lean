/- Models of functions, and that the code computes them. -/
import Derived.Test.YtcalibhfgdncaaaGreatDoorTypes
set_option linter.all false
namespace Go.Proofs.YtcalibhfgdncaaaGreatDoor
open Go.Dc Go.RowKit
set_option maxRecDepth 10000
def Qe(v0:Int)(n0:Int):Option Int:=
 bG (decide ((IntKind.u64.wrap n0)≠0))<|
 some (IntKind.i64.wrap ((IntKind.u64.wrap v0).tmod (IntKind.u64.wrap n0)))
theorem alO(S:bB)(w:World)(v0:Int)(n0:Int)(y:Int)(hM:Qe v0 n0=some y)(hS:sB S w):
  Calls Tryz.prog 16 #[vI v0,vI n0] w (cu w (vI y)):=by
 refine bP (args:=[_,_]) Tryz.func16 rfl ((pre_nil hS).start) rfl ?_;unfold Qe at hM;refine bD ?_;refine aO ?_;refine oe (ED .u64) ?_;refine om ?_;refine oe (ED .u64) ?_;obtain⟨hI1,hM⟩:=dw hM;refine oe (BM (hq:=fun hg=>of_decide_eq_true hI1)) ?_;refine oe (ED .i64) ?_;refine aP ?_;exact aW (bN hM)
def U9(l0:List Int):Option bT:=
 some (bT.mk l0 0)
theorem alN(S:bB)(w:World)(l0:List Int)(aC:ak.R (List Int))(y:bT)(hM:U9 l0=some y)(hS:sB S w)(fG:ak.ok S w aC l0):
  Calls Tryz.prog 25 #[sL aC l0] w (Post (β:=Nat×(ak.R (List Int))) S [] (fun g=>vP g.1) (fun g=>[own g.1 136 (Cn y g.2),iL y.l g.2]) w):=by
 refine bP (args:=[_]) Tryz.func25 rfl ((pre_nil hS).start |>.bU (α:=List Int) (r:=aC) (x:=l0) fG) rfl ?_;unfold U9 at hM;refine bD ?_;refine aO ?_;refine oe (fT [sL aC l0,vI 0]) ?_;refine oB [sL aC l0,vI 0] fun b1=>?_;refine aP ?_;obtain rfl:=some_inj hM;refine aW (jE (fun w hm=>dO (b1,aC) hm rfl))
def jS(s0:bT)(n0:Int):Option (Int×Int):=
 if decide ((s0.l.length:Int)≤s0.i) then
  (some (0,s0.i))
 else
  (bG (bW (s0.i+1))<|
  bG (bW ((s0.i+1)-1))<|
  (idx s0.l ((s0.i+1)-1)).bind fun x4=>
  (Qe x4 n0).bind fun y6=>
  some (y6,(s0.i+1)))
theorem iH(S:bB)(w:World)(eG:Nat)(s0:bT)(bK:ak.R bT)(n0:Int)(y:Int×Int)(hM:jS s0 n0=some y)(hP:Pre S [own eG 136 (Cn s0 bK)] w)(EH:ak.ok (α:=List Int) S w bK s0.l):
   Calls Tryz.prog 27 #[vP eG,vI n0] w (Post (β:=Unit) S [own eG 136 (Cn s0 bK)] (fun g=>vI y.1) (fun g=>[own eG 136 [sL bK s0.l,vI y.2]]) w):=by
 refine bP (args:=[_,_]) Tryz.func27 rfl (hP.start |>.bU (α:=List Int) (r:=bK) (x:=s0.l) EH) rfl ?_;unfold jS at hM;refine bD ?_;refine aG fun K2 hK2=>?_;refine aG fun K3 hK3=>?_;refine iD _ (List.Sublist.refl _) ?_;refine ay 0 rfl aH ?_;refine ay 1 rfl bY ?_;refine ay 2 rfl (aD 1) ?_;refine ay 3 rfl (aJ (b:=eG)) ?_;refine ay 4 rfl aH ?_;refine ay 5 rfl bY ?_;refine ay 6 rfl (aD 0) ?_;refine ay 7 rfl (aJ (b:=eG)) ?_;refine ay 8 rfl bJ ?_;refine ay 9 rfl jf ?_;refine dY (hK3 _ _ ?_);clear hK3;refine cc rfl hM (fun hc1 hM=>?_) (fun hc1 hM=>?_)
 ·refine bD ?_;obtain rfl:=some_inj hM;refine aW (jE (fun w hm=>dO () hm rfl))
 refine aX (hK2 _ _ ?_);clear hK2;refine aO ?_;refine oe bY ?_;refine oe (aD 1) ?_;refine oe (aJ (b:=eG)) ?_;refine oP hM fun hM=>?_;refine oe bY ?_;refine oe (aD 1) ?_;refine bn (fP (b:=eG) (l':=[sL bK s0.l,vI (s0.i+1)]) (k:=?_));refine on ?_;refine aG fun K6 bZ=>?_;refine iD _ (List.Sublist.refl _) ?_;refine ay 0 rfl aH ?_;refine ay 1 rfl bY ?_;refine ay 2 rfl (aD 0) ?_;refine ay 3 rfl (aJ (b:=eG)) ?_;refine ay 4 rfl aH ?_;refine ay 5 rfl bY ?_;refine ay 6 rfl (aD 1) ?_;refine ay 7 rfl (aJ (b:=eG)) ?_;obtain⟨hI3,hM⟩:=dw hM;refine ay 8 rfl (xk (hr:=fun hg=>fH hI3)) ?_;obtain⟨x4,hx5,hM⟩:=bind_some hM;refine ay 9 rfl (bI (xs:=s0.l) 1 (kG s0.l bK) (iS hx5)) ?_;refine ay 10 rfl (dh (i:=((s0.i+1)-1)) (xs:=s0.l) (y:=x4) 0 (kG s0.l bK) (fun _=>hx5)) ?_;refine ay 11 rfl aH ?_;obtain⟨y6,zq,hM⟩:=bind_some hM;refine eD 12 rfl (sV (fun hs=>alO _ _ x4 n0 y6 zq (bC hs)) ⟨rI,?_⟩);refine ay 13 rfl dx ?_;refine dY (bZ _ _ ?_);clear bZ
 obtain rfl:=some_inj hM;refine aW (jE (fun w hm=>dO () hm rfl))
end Go.Proofs.YtcalibhfgdncaaaGreatDoor

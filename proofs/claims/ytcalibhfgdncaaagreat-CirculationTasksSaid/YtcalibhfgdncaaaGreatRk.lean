/- Models of functions, and that the code computes them. -/
import Derived.Test.YtcalibhfgdncaaaGreatTypes
set_option linter.all false
namespace Go.Proofs.YtcalibhfgdncaaaGreat
open Go.Dc Go.RowKit
set_option maxRecDepth 10000
def F6(v0:Int)(n0:Int):Option Int:=
 aX (decide ((IntKind.u64.wrap n0)≠0))<|
 some (IntKind.i64.wrap ((IntKind.u64.wrap v0).tmod (IntKind.u64.wrap n0)))
theorem PX(S:bF)(w:World)(v0:Int)(n0:Int)(y:Int)(hM:F6 v0 n0=some y)(hS:sB S w):
  Calls Tryz.prog 7 #[vI v0,vI n0] w (dw w (vI y)):=by
 refine bW (args:=[_,_]) Tryz.func7 rfl ((pre_nil hS).start) rfl ?_;unfold F6 at hM;refine bg ?_;refine aJ ?_;refine oe (Jd .u64) ?_;refine om ?_;refine oe (Jd .u64) ?_;obtain⟨hI1,hM⟩:=bQ hM;refine oe (Eu (hq:=fun hg=>of_decide_eq_true hI1)) ?_;refine oe (Jd .i64) ?_;refine aL ?_;exact aP (bD hM)
def LA(l0:List Int):Option bS:=
 some (bS.mk l0 0)
theorem aeu(S:bF)(w:World)(l0:List Int)(aG:ak.R (List Int))(y:bS)(hM:LA l0=some y)(hS:sB S w)(eT:ak.ok S w aG l0):
  Calls Tryz.prog 5 #[sL aG l0] w (Post (β:=Nat×(ak.R (List Int))) S [] (fun g=>vP g.1) (fun g=>[own g.1 79 (DV y g.2),iL y.l g.2]) w):=by
 refine bW (args:=[_]) Tryz.func5 rfl ((pre_nil hS).start |>.dZ (α:=List Int) (r:=aG) (x:=l0) eT) rfl ?_;unfold LA at hM;refine bg ?_;refine aJ ?_;refine oe (gD [sL aG l0,vI 0]) ?_;refine oB [sL aG l0,vI 0] fun b1=>?_;refine aL ?_;obtain rfl:=some_inj hM;refine aP (tO (fun w hm=>gK (b1,aG) hm rfl))
def kC(s0:bS)(n0:Int):Option (Int×Int):=
 if decide ((s0.l.length:Int)≤s0.i) then
  (some (0,s0.i))
 else
  (aX (bA (s0.i+1))<|
  aX (bA ((s0.i+1)-1))<|
  (idx s0.l ((s0.i+1)-1)).bind fun x4=>
  (F6 x4 n0).bind fun y6=>
  some (y6,(s0.i+1)))
theorem iO(S:bF)(w:World)(fC:Nat)(s0:bS)(bR:ak.R bS)(n0:Int)(y:Int×Int)(hM:kC s0 n0=some y)(hP:Pre S [own fC 79 (DV s0 bR)] w)(FK:ak.ok (α:=List Int) S w bR s0.l):
   Calls Tryz.prog 6 #[vP fC,vI n0] w (Post (β:=Unit) S [own fC 79 (DV s0 bR)] (fun g=>vI y.1) (fun g=>[own fC 79 [sL bR s0.l,vI y.2]]) w):=by
 refine bW (args:=[_,_]) Tryz.func6 rfl (hP.start |>.dZ (α:=List Int) (r:=bR) (x:=s0.l) FK) rfl ?_;unfold kC at hM;refine bg ?_;refine aF fun K2 hK2=>?_;refine aF fun K3 hK3=>?_;refine fE _ (List.Sublist.refl _) ?_;refine aj 0 rfl aH ?_;refine aj 1 rfl dH ?_;refine aj 2 rfl (ay 1) ?_;refine aj 3 rfl (aD (b:=fC)) ?_;refine aj 4 rfl aH ?_;refine aj 5 rfl dH ?_;refine aj 6 rfl (ay 0) ?_;refine aj 7 rfl (aD (b:=fC)) ?_;refine aj 8 rfl bf ?_;refine aj 9 rfl ig ?_;refine dK (hK3 _ _ ?_);clear hK3;refine cc rfl hM (fun hc1 hM=>?_) (fun hc1 hM=>?_)
 ·refine bg ?_;obtain rfl:=some_inj hM;refine aP (tO (fun w hm=>gK () hm rfl))
 refine aM (hK2 _ _ ?_);clear hK2;refine aJ ?_;refine oe dH ?_;refine oe (ay 1) ?_;refine oe (aD (b:=fC)) ?_;refine oP hM fun hM=>?_;refine oe dH ?_;refine oe (ay 1) ?_;refine aY (jT (b:=fC) (l':=[sL bR s0.l,vI (s0.i+1)]) (k:=?_));refine on ?_;refine aF fun K6 bU=>?_;refine fE _ (List.Sublist.refl _) ?_;refine aj 0 rfl aH ?_;refine aj 1 rfl dH ?_;refine aj 2 rfl (ay 0) ?_;refine aj 3 rfl (aD (b:=fC)) ?_;refine aj 4 rfl aH ?_;refine aj 5 rfl dH ?_;refine aj 6 rfl (ay 1) ?_;refine aj 7 rfl (aD (b:=fC)) ?_;obtain⟨Yp,hM⟩:=bQ hM;refine aj 8 rfl (mQ (hr:=fun hg=>dI Yp)) ?_;obtain⟨x4,hx5,hM⟩:=bind_some hM;refine aj 9 rfl (aQ (xs:=s0.l) 1 (kG s0.l bR) (iS hx5)) ?_;refine aj 10 rfl (bE (i:=((s0.i+1)-1)) (xs:=s0.l) (y:=x4) 0 (kG s0.l bR) (fun _=>hx5)) ?_;refine aj 11 rfl aH ?_;obtain⟨y6,rZ,hM⟩:=bind_some hM;refine dX 12 rfl (sV (fun hs=>PX _ _ x4 n0 y6 rZ (bq hs)) ⟨rI,?_⟩);refine aj 13 rfl dL ?_;refine dK (bU _ _ ?_);clear bU
 obtain rfl:=some_inj hM;refine aP (tO (fun w hm=>gK () hm rfl))
end Go.Proofs.YtcalibhfgdncaaaGreat

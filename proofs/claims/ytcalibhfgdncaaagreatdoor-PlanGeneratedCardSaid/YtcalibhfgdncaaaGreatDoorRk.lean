/- Models of functions, and that the code computes them. -/
import Derived.Test.YtcalibhfgdncaaaGreatDoorTypes
set_option linter.all false
namespace Go.Proofs.YtcalibhfgdncaaaGreatDoor
open Go.Dc Go.RowKit
set_option maxRecDepth 10000
def lI(v0:Int)(n0:Int):Option Int:=
 bq (decide ((IntKind.u64.wrap n0)≠0))<|
 some (IntKind.i64.wrap ((IntKind.u64.wrap v0).tmod (IntKind.u64.wrap n0)))
theorem lX(S:bO)(w:World)(v0:Int)(n0:Int)(y:Int)(hM:lI v0 n0=some y)(hS:sB S w):
  Calls Tryz.prog 16 #[vI v0,vI n0] w (dz w (vI y)):=by
 refine cu (args:=[_,_]) Tryz.func16 rfl ((pre_nil hS).start) rfl ?_;unfold lI at hM;refine bI ?_;refine aW ?_;refine oe (GI .u64) ?_;refine om ?_;refine oe (GI .u64) ?_;obtain⟨hI1,hM⟩:=bW hM;refine oe (BZ (hq:=fun hg=>of_decide_eq_true hI1)) ?_;refine oe (GI .i64) ?_;refine aT ?_;exact aY (bQ hM)
def VQ(l0:List Int):Option bZ:=
 some (bZ.mk l0 0)
theorem aoN(S:bO)(w:World)(l0:List Int)(ay:aC.R (List Int))(y:bZ)(hM:VQ l0=some y)(hS:sB S w)(dZ:aC.ok S w ay l0):
  Calls Tryz.prog 25 #[sL ay l0] w (Post (β:=Nat×(aC.R (List Int))) S [] (fun g=>vP g.1) (fun g=>[own g.1 136 (Cy y g.2),iL y.l g.2]) w):=by
 refine cu (args:=[_]) Tryz.func25 rfl ((pre_nil hS).start |>.gW (α:=List Int) (r:=ay) (x:=l0) dZ) rfl ?_;unfold VQ at hM;refine bI ?_;refine aW ?_;refine oe (gI [sL ay l0,vI 0]) ?_;refine oB [sL ay l0,vI 0] fun b1=>?_;refine aT ?_;obtain rfl:=some_inj hM;refine aY (mD (fun w hm=>fU (b1,ay) hm rfl))
def kS(s0:bZ)(n0:Int):Option (Int×Int):=
 if decide ((s0.l.length:Int)≤s0.i) then
  (some (0,s0.i))
 else
  (bq (bJ (s0.i+1))<|
  bq (bJ ((s0.i+1)-1))<|
  (idx s0.l ((s0.i+1)-1)).bind fun x4=>
  (lI x4 n0).bind fun y6=>
  some (y6,(s0.i+1)))
theorem je(S:bO)(w:World)(fC:Nat)(s0:bZ)(bX:aC.R bZ)(n0:Int)(y:Int×Int)(hM:kS s0 n0=some y)(hP:Pre S [own fC 136 (Cy s0 bX)] w)(Fg:aC.ok (α:=List Int) S w bX s0.l):
   Calls Tryz.prog 27 #[vP fC,vI n0] w (Post (β:=Unit) S [own fC 136 (Cy s0 bX)] (fun g=>vI y.1) (fun g=>[own fC 136 [sL bX s0.l,vI y.2]]) w):=by
 refine cu (args:=[_,_]) Tryz.func27 rfl (hP.start |>.gW (α:=List Int) (r:=bX) (x:=s0.l) Fg) rfl ?_;unfold kS at hM;refine bI ?_;refine aK fun K2 hK2=>?_;refine aK fun K3 hK3=>?_;refine gy _ (List.Sublist.refl _) ?_;refine ak 0 rfl aL ?_;refine ak 1 rfl fI ?_;refine ak 2 rfl (av 1) ?_;refine ak 3 rfl (aF (b:=fC)) ?_;refine ak 4 rfl aL ?_;refine ak 5 rfl fI ?_;refine ak 6 rfl (av 0) ?_;refine ak 7 rfl (aF (b:=fC)) ?_;refine ak 8 rfl bL ?_;refine ak 9 rfl jK ?_;refine dP (hK3 _ _ ?_);clear hK3;refine cc rfl hM (fun hc1 hM=>?_) (fun hc1 hM=>?_)
 ·refine bI ?_;obtain rfl:=some_inj hM;refine aY (mD (fun w hm=>fU () hm rfl))
 refine aX (hK2 _ _ ?_);clear hK2;refine aW ?_;refine oe fI ?_;refine oe (av 1) ?_;refine oe (aF (b:=fC)) ?_;refine oP hM fun hM=>?_;refine oe fI ?_;refine oe (av 1) ?_;refine bM (iD (b:=fC) (l':=[sL bX s0.l,vI (s0.i+1)]) (k:=?_));refine on ?_;refine aK fun K6 dn=>?_;refine gy _ (List.Sublist.refl _) ?_;refine ak 0 rfl aL ?_;refine ak 1 rfl fI ?_;refine ak 2 rfl (av 0) ?_;refine ak 3 rfl (aF (b:=fC)) ?_;refine ak 4 rfl aL ?_;refine ak 5 rfl fI ?_;refine ak 6 rfl (av 1) ?_;refine ak 7 rfl (aF (b:=fC)) ?_;obtain⟨hI3,hM⟩:=bW hM;refine ak 8 rfl (ng (hr:=fun hg=>dY hI3)) ?_;obtain⟨x4,hx5,hM⟩:=bind_some hM;refine ak 9 rfl (bD (xs:=s0.l) 1 (kG s0.l bX) (iS hx5)) ?_;refine ak 10 rfl (bT (i:=((s0.i+1)-1)) (xs:=s0.l) (y:=x4) 0 (kG s0.l bX) (fun _=>hx5)) ?_;refine ak 11 rfl aL ?_;obtain⟨y6,qh,hM⟩:=bind_some hM;refine dH 12 rfl (sV (fun hs=>lX _ _ x4 n0 y6 qh (bf hs)) ⟨rI,?_⟩);refine ak 13 rfl dD ?_;refine dP (dn _ _ ?_);clear dn
 obtain rfl:=some_inj hM;refine aY (mD (fun w hm=>fU () hm rfl))
end Go.Proofs.YtcalibhfgdncaaaGreatDoor

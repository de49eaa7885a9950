/- Models of functions, and that the code computes them. -/
import Derived.Test.YtcalibhfgdncaaaGreatDoorTypes
set_option linter.all false
namespace Go.Proofs.YtcalibhfgdncaaaGreatDoor
open Go.Dc Go.RowKit
set_option maxRecDepth 10000
def aej:Unit→Option Bool:=fun _=>
 some true
def Qu(a0:List bA)(b0:List bA)(aY:Nat→Option Bool):Nat→Option Bool:=fun dM=>
 if decide ((dM:Int)<(a0.length:Int)) then
  ((idx a0 (dM:Int)).bind fun x4=>
  (idx b0 (dM:Int)).bind fun x6=>
  if (!decide (x4=x6)) then
   (some false)
  else
   (aY (dM+1)))
 else
  (aej ())
def Qv(a0:List bA)(b0:List bA):Option Bool:=
 if decide ((a0.length:Int)≠(b0.length:Int)) then
  (some false)
 else
  (iter (Qu a0 b0) FUEL 0)
theorem alY(S:bB)(w:World)(a0:List bA)(dz:ak.R (List bA))(b0:List bA)(aK:ak.R (List bA))(y:Bool)(hM:Qv a0 b0=some y)(hS:sB S w)(rH:ak.ok S w dz a0)(mG:ak.ok S w aK b0):
   Calls Tryz.prog 55 #[sL dz a0,sL aK b0] w (cu w (.bool y)):=by
 refine bP (args:=[_,_]) Tryz.func55 rfl ((pre_nil hS).start |>.bU (α:=List bA) (r:=dz) (x:=a0) rH|>.bU (α:=List bA) (r:=aK) (x:=b0) mG) rfl ?_;unfold Qv at hM;refine bD ?_;refine aG fun K2 hK2=>?_;refine aO ?_;refine oe bJ ?_;refine om ?_;refine oe bJ ?_;refine oe iy ?_;refine on ?_;refine cc rfl hM (fun hc1 hM=>?_) (fun hc1 hM=>?_)
 ·refine bD ?_;exact aW (bN hM)
 refine aX (hK2 _ _ ?_);clear hK2;refine aG fun K5 bS=>?_;refine aO ?_;refine iO (fun w hm=>Kn.len (kG a0 dz) hm) fun hl2=>?_;refine oe bJ ?_;refine om ?_;refine on ?_;refine bF ?_;refine lq hM (fun dM=>[(0,eS dz a0),(1,eS aK b0),(12,eI (a0.length:Int)),(13,eI (dM:Int))]) (fun dM=>[iL a0 dz,iL b0 aK]) sS rI ?_;clear hM;rintro aY dM hM gu hL1;dsimp only[Qu] at hM ⊢;refine sr ?_;refine oe cO ?_;refine on ?_;refine aG fun K8 eZ=>?_;refine cc rfl hM (fun hc3 hM=>?_) (fun hc3 hM=>?_)
 ·have EJ:=of_decide_eq_true hc3;refine aX (eZ _ _ ?_);clear eZ;refine aG fun K9 dU=>?_;refine bF ?_;refine aO ?_;refine aP ?_;refine aG fun o7 eH=>?_;refine iD _ (List.Sublist.refl _) ?_;refine ay 0 rfl aH ?_;refine ay 1 rfl aH ?_;obtain⟨x4,hx5,hM⟩:=bind_some hM;refine ay 2 rfl (bI (xs:=a0) 5 (kG a0 dz) (iS hx5)) ?_;refine ay 3 rfl (fO (m:=5) (i:=(dM:Int)) (xs:=a0) (y:=x4) (l:=(sF x4)) 0 (kG a0 dz) (fun _=>hx5)) ?_;refine ay 4 rfl aH ?_;refine ay 5 rfl aH ?_;obtain⟨x6,hx7,hM⟩:=bind_some hM;refine ay 6 rfl (bI (xs:=b0) 5 (kG b0 aK) (iS hx7)) ?_;refine ay 7 rfl (fO (m:=5) (i:=(dM:Int)) (xs:=b0) (y:=x6) (l:=(sF x6)) 0 (kG b0 aK) (fun _=>hx7)) ?_;refine ay 8 rfl (Jh [.string,.int .i64,.int .i64,.int .i64,.int .i64] (decide (x4=x6)) (ahD _ _)) ?_;refine dY (eH _ _ ?_);clear eH;refine cc rfl hM (fun hc8 hM=>?_) (fun hc8 hM=>?_)
  · refine bD ?_;exact aW (bN hM)
  refine aX (dU _ _ ?_);clear dU;refine aZ ?_;refine oe (dH (hr:=fun _=>by unfold d9;omega)) ?_;refine om ?_;refine bf (hL1 hM sS rI)
 refine dL (bS _ _ ?_);clear bS;dsimp only[aej] at hM;refine bD ?_;exact aW (bN hM)
def aei:Unit→Option Bool:=fun _=>
 some true
def Qs(a0:List Step)(b0:List Step)(aY:Nat→Option Bool):Nat→Option Bool:=fun dM=>
 if decide ((dM:Int)<(a0.length:Int)) then
  ((idx a0 (dM:Int)).bind fun x4=>
  (idx b0 (dM:Int)).bind fun x6=>
  if (!decide (x4=x6)) then
   (some false)
  else
   (aY (dM+1)))
 else
  (aei ())
def Qt(a0:List Step)(b0:List Step):Option Bool:=
 if decide ((a0.length:Int)≠(b0.length:Int)) then
  (some false)
 else
  (iter (Qs a0 b0) FUEL 0)
theorem alX(S:bB)(w:World)(a0:List Step)(dz:ak.R (List Step))(b0:List Step)(aK:ak.R (List Step))(y:Bool)(hM:Qt a0 b0=some y)(hS:sB S w)(rH:ak.ok S w dz a0)(mG:ak.ok S w aK b0):
   Calls Tryz.prog 167 #[sL dz a0,sL aK b0] w (cu w (.bool y)):=by
 refine bP (args:=[_,_]) Tryz.func167 rfl ((pre_nil hS).start |>.bU (α:=List Step) (r:=dz) (x:=a0) rH|>.bU (α:=List Step) (r:=aK) (x:=b0) mG) rfl ?_;unfold Qt at hM;refine bD ?_;refine aG fun K2 hK2=>?_;refine aO ?_;refine oe bJ ?_;refine om ?_;refine oe bJ ?_;refine oe iy ?_;refine on ?_;refine cc rfl hM (fun hc1 hM=>?_) (fun hc1 hM=>?_)
 ·refine bD ?_;exact aW (bN hM)
 refine aX (hK2 _ _ ?_);clear hK2;refine aG fun K5 bS=>?_;refine aO ?_;refine iO (fun w hm=>Kn.len (kG a0 dz) hm) fun hl2=>?_;refine oe bJ ?_;refine om ?_;refine on ?_;refine bF ?_;refine lq hM (fun dM=>[(0,eS dz a0),(1,eS aK b0),(12,eI (a0.length:Int)),(13,eI (dM:Int))]) (fun dM=>[iL a0 dz,iL b0 aK]) sS rI ?_;clear hM;rintro aY dM hM gu hL1;dsimp only[Qs] at hM ⊢;refine sr ?_;refine oe cO ?_;refine on ?_;refine aG fun K8 eZ=>?_;refine cc rfl hM (fun hc3 hM=>?_) (fun hc3 hM=>?_)
 ·have EJ:=of_decide_eq_true hc3;refine aX (eZ _ _ ?_);clear eZ;refine aG fun K9 dU=>?_;refine bF ?_;refine aO ?_;refine aP ?_;refine aG fun o7 eH=>?_;refine iD _ (List.Sublist.refl _) ?_;refine ay 0 rfl aH ?_;refine ay 1 rfl aH ?_;obtain⟨x4,hx5,hM⟩:=bind_some hM;refine ay 2 rfl (bI (xs:=a0) 2 (kG a0 dz) (iS hx5)) ?_;refine ay 3 rfl (fO (m:=2) (i:=(dM:Int)) (xs:=a0) (y:=x4) (l:=(qU x4)) 0 (kG a0 dz) (fun _=>hx5)) ?_;refine ay 4 rfl aH ?_;refine ay 5 rfl aH ?_;obtain⟨x6,hx7,hM⟩:=bind_some hM;refine ay 6 rfl (bI (xs:=b0) 2 (kG b0 aK) (iS hx7)) ?_;refine ay 7 rfl (fO (m:=2) (i:=(dM:Int)) (xs:=b0) (y:=x6) (l:=(qU x6)) 0 (kG b0 aK) (fun _=>hx7)) ?_;refine ay 8 rfl (Jh [.int .i64,.int .i64] (decide (x4=x6)) (ahC _ _)) ?_;refine dY (eH _ _ ?_);clear eH;refine cc rfl hM (fun hc8 hM=>?_) (fun hc8 hM=>?_)
  · refine bD ?_;exact aW (bN hM)
  refine aX (dU _ _ ?_);clear dU;refine aZ ?_;refine oe (dH (hr:=fun _=>by unfold d9;omega)) ?_;refine om ?_;refine bf (hL1 hM sS rI)
 refine dL (bS _ _ ?_);clear bS;dsimp only[aei] at hM;refine bD ?_;exact aW (bN hM)
def Qj(a0:aQ)(b0:aQ):Option Bool:=
 (fV (decide (a0.Overlap=b0.Overlap)) default (Qt a0.Steps b0.Steps)).bind fun y3=>
 some (decide (a0.Overlap=b0.Overlap)&&y3)
theorem alS(S:bB)(w:World)(a0:aQ)(dz:ak.R aQ)(b0:aQ)(aK:ak.R aQ)(y:Bool)(hM:Qj a0 b0=some y)(hS:sB S w)(rH:ak.ok S w dz a0)(mG:ak.ok S w aK b0):
  Calls Tryz.prog 120 #[.agg (C9 a0 dz),.agg (C9 b0 aK)] w (cu w (.bool y)):=by
 refine bP (args:=[_,_]) Tryz.func120 rfl ((pre_nil hS).start |>.bU (α:=List Step) (r:=dz) (x:=a0.Steps) rH|>.bU (α:=List Step) (r:=aK) (x:=b0.Steps) mG) rfl ?_;unfold Qj at hM;refine sr ?_;refine oB (nU a0 dz) fun b1=>?_;refine oB (nU b0 aK) fun b2=>?_;refine aP ?_;refine sr ?_;refine oe (aD 1) ?_;refine oe (aJ (b:=b1)) ?_;refine oe (aD 1) ?_;refine oe (aJ (b:=b2)) ?_;refine oe eu ?_;refine om ?_;refine av rfl (aD 0) ?_;refine av rfl (aJ (b:=b1)) ?_;refine av rfl (aD 0) ?_;refine av rfl (aJ (b:=b2)) ?_;obtain⟨y3,hy4,hM⟩:=bind_some hM;refine cg rfl (fun hg hs=>alX _ _ a0.Steps dz b0.Steps aK y3 (fu hy4 hg) (bC hs) (kM hs) (kM hs)) ?_;refine oe dI ?_;refine aP ?_;exact aW (bN hM)
def aee:Unit→Option Bool:=fun _=>
 some true
def Qk(a0:List aQ)(b0:List aQ)(aY:Nat→Option Bool):Nat→Option Bool:=fun dM=>
 if decide ((dM:Int)<(a0.length:Int)) then
  ((idx a0 (dM:Int)).bind fun x4=>
  (idx b0 (dM:Int)).bind fun x6=>
  (Qj x4 x6).bind fun y8=>
  if (!y8) then
   (some false)
  else
   (aY (dM+1)))
 else
  (aee ())
def Ql(a0:List aQ)(b0:List aQ):Option Bool:=
 if decide ((a0.length:Int)≠(b0.length:Int)) then
  (some false)
 else
  (iter (Qk a0 b0) FUEL 0)
theorem alT(S:bB)(w:World)(a0:List aQ)(dz:ak.R (List aQ))(b0:List aQ)(aK:ak.R (List aQ))(y:Bool)(hM:Ql a0 b0=some y)(hS:sB S w)(rH:ak.ok S w dz a0)(mG:ak.ok S w aK b0):
   Calls Tryz.prog 56 #[sL dz a0,sL aK b0] w (cu w (.bool y)):=by
 refine bP (args:=[_,_]) Tryz.func56 rfl ((pre_nil hS).start |>.bU (α:=List aQ) (r:=dz) (x:=a0) rH|>.bU (α:=List aQ) (r:=aK) (x:=b0) mG) rfl ?_;unfold Ql at hM;refine bD ?_;refine aG fun K2 hK2=>?_;refine aO ?_;refine oe bJ ?_;refine om ?_;refine oe bJ ?_;refine oe iy ?_;refine on ?_;refine cc rfl hM (fun hc1 hM=>?_) (fun hc1 hM=>?_)
 ·refine bD ?_;exact aW (bN hM)
 refine aX (hK2 _ _ ?_);clear hK2;refine aG fun K5 bS=>?_;refine aO ?_;refine iO (fun w hm=>Kn.len (kG a0 dz) hm) fun hl2=>?_;refine oe bJ ?_;refine om ?_;refine on ?_;refine bF ?_;refine lq hM (fun dM=>[(0,eS dz a0),(1,eS aK b0),(12,eI (a0.length:Int)),(13,eI (dM:Int))]) (fun dM=>[iL a0 dz,iL b0 aK]) sS rI ?_;clear hM;rintro aY dM hM gu hL1;dsimp only[Qk] at hM ⊢;refine sr ?_;refine oe cO ?_;refine on ?_;refine aG fun K8 eZ=>?_;refine cc rfl hM (fun hc3 hM=>?_) (fun hc3 hM=>?_)
 ·have EJ:=of_decide_eq_true hc3;refine aX (eZ _ _ ?_);clear eZ;refine aG fun K9 dU=>?_;refine bF ?_;refine aO ?_;refine aP ?_;refine aG fun o7 eH=>?_;refine iD _ (List.Sublist.refl _) ?_;refine ay 0 rfl aH ?_;refine ay 1 rfl aH ?_;obtain⟨x4,hx5,hM⟩:=bind_some hM;refine ay 2 rfl (bI (xs:=a0) 2 (kG a0 dz) (iS hx5)) ?_;refine ay 3 rfl (fO (m:=2) (i:=(dM:Int)) (xs:=a0) (y:=x4) (l:=(nU x4 (dz.es (dM:Int).toNat))) 0 (kG a0 dz) (fun _=>hx5)) ?_;refine ay 4 rfl aH ?_;refine ay 5 rfl aH ?_;obtain⟨x6,hx7,hM⟩:=bind_some hM;refine ay 6 rfl (bI (xs:=b0) 2 (kG b0 aK) (iS hx7)) ?_;refine ay 7 rfl (fO (m:=2) (i:=(dM:Int)) (xs:=b0) (y:=x6) (l:=(nU x6 (aK.es (dM:Int).toNat))) 0 (kG b0 aK) (fun _=>hx7)) ?_;obtain⟨y8,sW,hM⟩:=bind_some hM;refine eD 8 rfl (sV (fun hs=>alS _ _ x4 (dz.es (dM:Int).toNat) x6 (aK.es (dM:Int).toNat) y8 sW (bC hs) (Kn.lend ((Sk.elem (Sk.dW (α:=List aQ) (r:=dz) (x:=a0) hA) hx5)).kn hs) (Kn.lend ((Sk.elem (Sk.dW (α:=List aQ) (r:=aK) (x:=b0) hA) hx7)).kn hs)) ⟨rI,?_⟩)
  refine ay 9 rfl fF ?_;refine dY (eH _ _ ?_);clear eH;refine cc rfl hM (fun uh hM=>?_) (fun uh hM=>?_)
  · refine bD ?_;exact aW (bN hM)
  refine aX (dU _ _ ?_);clear dU;refine aZ ?_;refine oe (dH (hr:=fun _=>by unfold d9;omega)) ?_;refine om ?_;refine bf (hL1 hM sS rI)
 refine dL (bS _ _ ?_);clear bS;dsimp only[aee] at hM;refine bD ?_;exact aW (bN hM)
def aef:Unit→Option Bool:=fun _=>
 some true
def Qm(a0:List Change)(b0:List Change)(aY:Nat→Option Bool):Nat→Option Bool:=fun dM=>
 if decide ((dM:Int)<(a0.length:Int)) then
  ((idx a0 (dM:Int)).bind fun x4=>
  (idx b0 (dM:Int)).bind fun x6=>
  if (!decide (x4=x6)) then
   (some false)
  else
   (aY (dM+1)))
 else
  (aef ())
def Qn(a0:List Change)(b0:List Change):Option Bool:=
 if decide ((a0.length:Int)≠(b0.length:Int)) then
  (some false)
 else
  (iter (Qm a0 b0) FUEL 0)
theorem alU(S:bB)(w:World)(a0:List Change)(dz:ak.R (List Change))(b0:List Change)(aK:ak.R (List Change))(y:Bool)(hM:Qn a0 b0=some y)(hS:sB S w)(rH:ak.ok S w dz a0)(mG:ak.ok S w aK b0):
   Calls Tryz.prog 57 #[sL dz a0,sL aK b0] w (cu w (.bool y)):=by
 refine bP (args:=[_,_]) Tryz.func57 rfl ((pre_nil hS).start |>.bU (α:=List Change) (r:=dz) (x:=a0) rH|>.bU (α:=List Change) (r:=aK) (x:=b0) mG) rfl ?_;unfold Qn at hM;refine bD ?_;refine aG fun K2 hK2=>?_;refine aO ?_;refine oe bJ ?_;refine om ?_;refine oe bJ ?_;refine oe iy ?_;refine on ?_;refine cc rfl hM (fun hc1 hM=>?_) (fun hc1 hM=>?_)
 ·refine bD ?_;exact aW (bN hM)
 refine aX (hK2 _ _ ?_);clear hK2;refine aG fun K5 bS=>?_;refine aO ?_;refine iO (fun w hm=>Kn.len (kG a0 dz) hm) fun hl2=>?_;refine oe bJ ?_;refine om ?_;refine on ?_;refine bF ?_;refine lq hM (fun dM=>[(0,eS dz a0),(1,eS aK b0),(12,eI (a0.length:Int)),(13,eI (dM:Int))]) (fun dM=>[iL a0 dz,iL b0 aK]) sS rI ?_;clear hM;rintro aY dM hM gu hL1;dsimp only[Qm] at hM ⊢;refine sr ?_;refine oe cO ?_;refine on ?_;refine aG fun K8 eZ=>?_;refine cc rfl hM (fun hc3 hM=>?_) (fun hc3 hM=>?_)
 ·have EJ:=of_decide_eq_true hc3;refine aX (eZ _ _ ?_);clear eZ;refine aG fun K9 dU=>?_;refine bF ?_;refine aO ?_;refine aP ?_;refine aG fun o7 eH=>?_;refine iD _ (List.Sublist.refl _) ?_;refine ay 0 rfl aH ?_;refine ay 1 rfl aH ?_;obtain⟨x4,hx5,hM⟩:=bind_some hM;refine ay 2 rfl (bI (xs:=a0) 7 (kG a0 dz) (iS hx5)) ?_;refine ay 3 rfl (fO (m:=7) (i:=(dM:Int)) (xs:=a0) (y:=x4) (l:=(JM x4)) 0 (kG a0 dz) (fun _=>hx5)) ?_;refine ay 4 rfl aH ?_;refine ay 5 rfl aH ?_;obtain⟨x6,hx7,hM⟩:=bind_some hM;refine ay 6 rfl (bI (xs:=b0) 7 (kG b0 aK) (iS hx7)) ?_;refine ay 7 rfl (fO (m:=7) (i:=(dM:Int)) (xs:=b0) (y:=x6) (l:=(JM x6)) 0 (kG b0 aK) (fun _=>hx7)) ?_;refine ay 8 rfl (Jh [.int .i64,.int .i64,.int .i64,.int .i64,.int .i64,.int .i64,.int .i64] (decide (x4=x6)) (ahl _ _)) ?_;refine dY (eH _ _ ?_);clear eH
  refine cc rfl hM (fun hc8 hM=>?_) (fun hc8 hM=>?_)
  · refine bD ?_;exact aW (bN hM)
  refine aX (dU _ _ ?_);clear dU;refine aZ ?_;refine oe (dH (hr:=fun _=>by unfold d9;omega)) ?_;refine om ?_;refine bf (hL1 hM sS rI)
 refine dL (bS _ _ ?_);clear bS;dsimp only[aef] at hM;refine bD ?_;exact aW (bN hM)
def ael:Unit→Option Bool:=fun _=>
 some true
def Qy(a0:List Turn)(b0:List Turn)(aY:Nat→Option Bool):Nat→Option Bool:=fun dM=>
 if decide ((dM:Int)<(a0.length:Int)) then
  ((idx a0 (dM:Int)).bind fun x4=>
  (idx b0 (dM:Int)).bind fun x6=>
  if (!decide (x4=x6)) then
   (some false)
  else
   (aY (dM+1)))
 else
  (ael ())
def Qz(a0:List Turn)(b0:List Turn):Option Bool:=
 if decide ((a0.length:Int)≠(b0.length:Int)) then
  (some false)
 else
  (iter (Qy a0 b0) FUEL 0)
theorem al0(S:bB)(w:World)(a0:List Turn)(dz:ak.R (List Turn))(b0:List Turn)(aK:ak.R (List Turn))(y:Bool)(hM:Qz a0 b0=some y)(hS:sB S w)(rH:ak.ok S w dz a0)(mG:ak.ok S w aK b0):
   Calls Tryz.prog 58 #[sL dz a0,sL aK b0] w (cu w (.bool y)):=by
 refine bP (args:=[_,_]) Tryz.func58 rfl ((pre_nil hS).start |>.bU (α:=List Turn) (r:=dz) (x:=a0) rH|>.bU (α:=List Turn) (r:=aK) (x:=b0) mG) rfl ?_;unfold Qz at hM;refine bD ?_;refine aG fun K2 hK2=>?_;refine aO ?_;refine oe bJ ?_;refine om ?_;refine oe bJ ?_;refine oe iy ?_;refine on ?_;refine cc rfl hM (fun hc1 hM=>?_) (fun hc1 hM=>?_)
 ·refine bD ?_;exact aW (bN hM)
 refine aX (hK2 _ _ ?_);clear hK2;refine aG fun K5 bS=>?_;refine aO ?_;refine iO (fun w hm=>Kn.len (kG a0 dz) hm) fun hl2=>?_;refine oe bJ ?_;refine om ?_;refine on ?_;refine bF ?_;refine lq hM (fun dM=>[(0,eS dz a0),(1,eS aK b0),(12,eI (a0.length:Int)),(13,eI (dM:Int))]) (fun dM=>[iL a0 dz,iL b0 aK]) sS rI ?_;clear hM;rintro aY dM hM gu hL1;dsimp only[Qy] at hM ⊢;refine sr ?_;refine oe cO ?_;refine on ?_;refine aG fun K8 eZ=>?_;refine cc rfl hM (fun hc3 hM=>?_) (fun hc3 hM=>?_)
 ·have EJ:=of_decide_eq_true hc3;refine aX (eZ _ _ ?_);clear eZ;refine aG fun K9 dU=>?_;refine bF ?_;refine aO ?_;refine aP ?_;refine aG fun o7 eH=>?_;refine iD _ (List.Sublist.refl _) ?_;refine ay 0 rfl aH ?_;refine ay 1 rfl aH ?_;obtain⟨x4,hx5,hM⟩:=bind_some hM;refine ay 2 rfl (bI (xs:=a0) 4 (kG a0 dz) (iS hx5)) ?_;refine ay 3 rfl (fO (m:=4) (i:=(dM:Int)) (xs:=a0) (y:=x4) (l:=(yL x4)) 0 (kG a0 dz) (fun _=>hx5)) ?_;refine ay 4 rfl aH ?_;refine ay 5 rfl aH ?_;obtain⟨x6,hx7,hM⟩:=bind_some hM;refine ay 6 rfl (bI (xs:=b0) 4 (kG b0 aK) (iS hx7)) ?_;refine ay 7 rfl (fO (m:=4) (i:=(dM:Int)) (xs:=b0) (y:=x6) (l:=(yL x6)) 0 (kG b0 aK) (fun _=>hx7)) ?_;refine ay 8 rfl (Jh [.int .i64,.int .i64,.int .i64,.int .i64] (decide (x4=x6)) (ahF _ _)) ?_;refine dY (eH _ _ ?_);clear eH;refine cc rfl hM (fun hc8 hM=>?_) (fun hc8 hM=>?_)
  · refine bD ?_;exact aW (bN hM)
  refine aX (dU _ _ ?_);clear dU;refine aZ ?_;refine oe (dH (hr:=fun _=>by unfold d9;omega)) ?_;refine om ?_;refine bf (hL1 hM sS rI)
 refine dL (bS _ _ ?_);clear bS;dsimp only[ael] at hM;refine bD ?_;exact aW (bN hM)
def aek:Unit→Option Bool:=fun _=>
 some true
def Qw(a0:List Sync)(b0:List Sync)(aY:Nat→Option Bool):Nat→Option Bool:=fun dM=>
 if decide ((dM:Int)<(a0.length:Int)) then
  ((idx a0 (dM:Int)).bind fun x4=>
  (idx b0 (dM:Int)).bind fun x6=>
  if (!decide (x4=x6)) then
   (some false)
  else
   (aY (dM+1)))
 else
  (aek ())
def Qx(a0:List Sync)(b0:List Sync):Option Bool:=
 if decide ((a0.length:Int)≠(b0.length:Int)) then
  (some false)
 else
  (iter (Qw a0 b0) FUEL 0)
theorem alZ(S:bB)(w:World)(a0:List Sync)(dz:ak.R (List Sync))(b0:List Sync)(aK:ak.R (List Sync))(y:Bool)(hM:Qx a0 b0=some y)(hS:sB S w)(rH:ak.ok S w dz a0)(mG:ak.ok S w aK b0):
   Calls Tryz.prog 59 #[sL dz a0,sL aK b0] w (cu w (.bool y)):=by
 refine bP (args:=[_,_]) Tryz.func59 rfl ((pre_nil hS).start |>.bU (α:=List Sync) (r:=dz) (x:=a0) rH|>.bU (α:=List Sync) (r:=aK) (x:=b0) mG) rfl ?_;unfold Qx at hM;refine bD ?_;refine aG fun K2 hK2=>?_;refine aO ?_;refine oe bJ ?_;refine om ?_;refine oe bJ ?_;refine oe iy ?_;refine on ?_;refine cc rfl hM (fun hc1 hM=>?_) (fun hc1 hM=>?_)
 ·refine bD ?_;exact aW (bN hM)
 refine aX (hK2 _ _ ?_);clear hK2;refine aG fun K5 bS=>?_;refine aO ?_;refine iO (fun w hm=>Kn.len (kG a0 dz) hm) fun hl2=>?_;refine oe bJ ?_;refine om ?_;refine on ?_;refine bF ?_;refine lq hM (fun dM=>[(0,eS dz a0),(1,eS aK b0),(12,eI (a0.length:Int)),(13,eI (dM:Int))]) (fun dM=>[iL a0 dz,iL b0 aK]) sS rI ?_;clear hM;rintro aY dM hM gu hL1;dsimp only[Qw] at hM ⊢;refine sr ?_;refine oe cO ?_;refine on ?_;refine aG fun K8 eZ=>?_;refine cc rfl hM (fun hc3 hM=>?_) (fun hc3 hM=>?_)
 ·have EJ:=of_decide_eq_true hc3;refine aX (eZ _ _ ?_);clear eZ;refine aG fun K9 dU=>?_;refine bF ?_;refine aO ?_;refine aP ?_;refine aG fun o7 eH=>?_;refine iD _ (List.Sublist.refl _) ?_;refine ay 0 rfl aH ?_;refine ay 1 rfl aH ?_;obtain⟨x4,hx5,hM⟩:=bind_some hM;refine ay 2 rfl (bI (xs:=a0) 5 (kG a0 dz) (iS hx5)) ?_;refine ay 3 rfl (fO (m:=5) (i:=(dM:Int)) (xs:=a0) (y:=x4) (l:=(JO x4)) 0 (kG a0 dz) (fun _=>hx5)) ?_;refine ay 4 rfl aH ?_;refine ay 5 rfl aH ?_;obtain⟨x6,hx7,hM⟩:=bind_some hM;refine ay 6 rfl (bI (xs:=b0) 5 (kG b0 aK) (iS hx7)) ?_;refine ay 7 rfl (fO (m:=5) (i:=(dM:Int)) (xs:=b0) (y:=x6) (l:=(JO x6)) 0 (kG b0 aK) (fun _=>hx7)) ?_;refine ay 8 rfl (Jh [.int .i64,.int .i64,.int .i64,.int .i64,.int .i64] (decide (x4=x6)) (ahE _ _)) ?_;refine dY (eH _ _ ?_);clear eH;refine cc rfl hM (fun hc8 hM=>?_) (fun hc8 hM=>?_)
  · refine bD ?_;exact aW (bN hM)
  refine aX (dU _ _ ?_);clear dU;refine aZ ?_;refine oe (dH (hr:=fun _=>by unfold d9;omega)) ?_;refine om ?_;refine bf (hL1 hM sS rI)
 refine dL (bS _ _ ?_);clear bS;dsimp only[aek] at hM;refine bD ?_;exact aW (bN hM)
def aeg:Unit→Option Bool:=fun _=>
 some true
def Qo(a0:List dB)(b0:List dB)(aY:Nat→Option Bool):Nat→Option Bool:=fun dM=>
 if decide ((dM:Int)<(a0.length:Int)) then
  ((idx a0 (dM:Int)).bind fun x4=>
  (idx b0 (dM:Int)).bind fun x6=>
  if (!decide (x4=x6)) then
   (some false)
  else
   (aY (dM+1)))
 else
  (aeg ())
def Qp(a0:List dB)(b0:List dB):Option Bool:=
 if decide ((a0.length:Int)≠(b0.length:Int)) then
  (some false)
 else
  (iter (Qo a0 b0) FUEL 0)
theorem alV(S:bB)(w:World)(a0:List dB)(dz:ak.R (List dB))(b0:List dB)(aK:ak.R (List dB))(y:Bool)(hM:Qp a0 b0=some y)(hS:sB S w)(rH:ak.ok S w dz a0)(mG:ak.ok S w aK b0):
   Calls Tryz.prog 60 #[sL dz a0,sL aK b0] w (cu w (.bool y)):=by
 refine bP (args:=[_,_]) Tryz.func60 rfl ((pre_nil hS).start |>.bU (α:=List dB) (r:=dz) (x:=a0) rH|>.bU (α:=List dB) (r:=aK) (x:=b0) mG) rfl ?_;unfold Qp at hM;refine bD ?_;refine aG fun K2 hK2=>?_;refine aO ?_;refine oe bJ ?_;refine om ?_;refine oe bJ ?_;refine oe iy ?_;refine on ?_;refine cc rfl hM (fun hc1 hM=>?_) (fun hc1 hM=>?_)
 ·refine bD ?_;exact aW (bN hM)
 refine aX (hK2 _ _ ?_);clear hK2;refine aG fun K5 bS=>?_;refine aO ?_;refine iO (fun w hm=>Kn.len (kG a0 dz) hm) fun hl2=>?_;refine oe bJ ?_;refine om ?_;refine on ?_;refine bF ?_;refine lq hM (fun dM=>[(0,eS dz a0),(1,eS aK b0),(12,eI (a0.length:Int)),(13,eI (dM:Int))]) (fun dM=>[iL a0 dz,iL b0 aK]) sS rI ?_;clear hM;rintro aY dM hM gu hL1;dsimp only[Qo] at hM ⊢;refine sr ?_;refine oe cO ?_;refine on ?_;refine aG fun K8 eZ=>?_;refine cc rfl hM (fun hc3 hM=>?_) (fun hc3 hM=>?_)
 ·have EJ:=of_decide_eq_true hc3;refine aX (eZ _ _ ?_);clear eZ;refine aG fun K9 dU=>?_;refine bF ?_;refine aO ?_;refine aP ?_;refine aG fun o7 eH=>?_;refine iD _ (List.Sublist.refl _) ?_;refine ay 0 rfl aH ?_;refine ay 1 rfl aH ?_;obtain⟨x4,hx5,hM⟩:=bind_some hM;refine ay 2 rfl (bI (xs:=a0) 3 (kG a0 dz) (iS hx5)) ?_;refine ay 3 rfl (fO (m:=3) (i:=(dM:Int)) (xs:=a0) (y:=x4) (l:=(JN x4)) 0 (kG a0 dz) (fun _=>hx5)) ?_;refine ay 4 rfl aH ?_;refine ay 5 rfl aH ?_;obtain⟨x6,hx7,hM⟩:=bind_some hM;refine ay 6 rfl (bI (xs:=b0) 3 (kG b0 aK) (iS hx7)) ?_;refine ay 7 rfl (fO (m:=3) (i:=(dM:Int)) (xs:=b0) (y:=x6) (l:=(JN x6)) 0 (kG b0 aK) (fun _=>hx7)) ?_;refine ay 8 rfl (Jh [.int .i64,.int .i64,.int .i64] (decide (x4=x6)) (ahn _ _)) ?_;refine dY (eH _ _ ?_);clear eH;refine cc rfl hM (fun hc8 hM=>?_) (fun hc8 hM=>?_)
  · refine bD ?_;exact aW (bN hM)
  refine aX (dU _ _ ?_);clear dU;refine aZ ?_;refine oe (dH (hr:=fun _=>by unfold d9;omega)) ?_;refine om ?_;refine bf (hL1 hM sS rI)
 refine dL (bS _ _ ?_);clear bS;dsimp only[aeg] at hM;refine bD ?_;exact aW (bN hM)
def aeh:Unit→Option Bool:=fun _=>
 some true
def Qq(a0:List dD)(b0:List dD)(aY:Nat→Option Bool):Nat→Option Bool:=fun dM=>
 if decide ((dM:Int)<(a0.length:Int)) then
  ((idx a0 (dM:Int)).bind fun x4=>
  (idx b0 (dM:Int)).bind fun x6=>
  if (!decide (x4=x6)) then
   (some false)
  else
   (aY (dM+1)))
 else
  (aeh ())
def Qr(a0:List dD)(b0:List dD):Option Bool:=
 if decide ((a0.length:Int)≠(b0.length:Int)) then
  (some false)
 else
  (iter (Qq a0 b0) FUEL 0)
theorem alW(S:bB)(w:World)(a0:List dD)(dz:ak.R (List dD))(b0:List dD)(aK:ak.R (List dD))(y:Bool)(hM:Qr a0 b0=some y)(hS:sB S w)(rH:ak.ok S w dz a0)(mG:ak.ok S w aK b0):
   Calls Tryz.prog 121 #[sL dz a0,sL aK b0] w (cu w (.bool y)):=by
 refine bP (args:=[_,_]) Tryz.func121 rfl ((pre_nil hS).start |>.bU (α:=List dD) (r:=dz) (x:=a0) rH|>.bU (α:=List dD) (r:=aK) (x:=b0) mG) rfl ?_;unfold Qr at hM;refine bD ?_;refine aG fun K2 hK2=>?_;refine aO ?_;refine oe bJ ?_;refine om ?_;refine oe bJ ?_;refine oe iy ?_;refine on ?_;refine cc rfl hM (fun hc1 hM=>?_) (fun hc1 hM=>?_)
 ·refine bD ?_;exact aW (bN hM)
 refine aX (hK2 _ _ ?_);clear hK2;refine aG fun K5 bS=>?_;refine aO ?_;refine iO (fun w hm=>Kn.len (kG a0 dz) hm) fun hl2=>?_;refine oe bJ ?_;refine om ?_;refine on ?_;refine bF ?_;refine lq hM (fun dM=>[(0,eS dz a0),(1,eS aK b0),(12,eI (a0.length:Int)),(13,eI (dM:Int))]) (fun dM=>[iL a0 dz,iL b0 aK]) sS rI ?_;clear hM;rintro aY dM hM gu hL1;dsimp only[Qq] at hM ⊢;refine sr ?_;refine oe cO ?_;refine on ?_;refine aG fun K8 eZ=>?_;refine cc rfl hM (fun hc3 hM=>?_) (fun hc3 hM=>?_)
 ·have EJ:=of_decide_eq_true hc3;refine aX (eZ _ _ ?_);clear eZ;refine aG fun K9 dU=>?_;refine bF ?_;refine aO ?_;refine aP ?_;refine aG fun o7 eH=>?_;refine iD _ (List.Sublist.refl _) ?_;refine ay 0 rfl aH ?_;refine ay 1 rfl aH ?_;obtain⟨x4,hx5,hM⟩:=bind_some hM;refine ay 2 rfl (bI (xs:=a0) 4 (kG a0 dz) (iS hx5)) ?_;refine ay 3 rfl (fO (m:=4) (i:=(dM:Int)) (xs:=a0) (y:=x4) (l:=(wG x4)) 0 (kG a0 dz) (fun _=>hx5)) ?_;refine ay 4 rfl aH ?_;refine ay 5 rfl aH ?_;obtain⟨x6,hx7,hM⟩:=bind_some hM;refine ay 6 rfl (bI (xs:=b0) 4 (kG b0 aK) (iS hx7)) ?_;refine ay 7 rfl (fO (m:=4) (i:=(dM:Int)) (xs:=b0) (y:=x6) (l:=(wG x6)) 0 (kG b0 aK) (fun _=>hx7)) ?_;refine ay 8 rfl (Jh [.int .i64,.int .i64,.int .i64,.int .i64] (decide (x4=x6)) (ahB _ _)) ?_;refine dY (eH _ _ ?_);clear eH;refine cc rfl hM (fun hc8 hM=>?_) (fun hc8 hM=>?_)
  · refine bD ?_;exact aW (bN hM)
  refine aX (dU _ _ ?_);clear dU;refine aZ ?_;refine oe (dH (hr:=fun _=>by unfold d9;omega)) ?_;refine om ?_;refine bf (hL1 hM sS rI)
 refine dL (bS _ _ ?_);clear bS;dsimp only[aeh] at hM;refine bD ?_;exact aW (bN hM)
def Qg(a0:Line)(b0:Line):Option Bool:=
 (fV ((decide (a0.Name=b0.Name)&&decide (a0.bA=b0.bA))&&decide (a0.Weight=b0.Weight)) default (Qr a0.bL b0.bL)).bind fun y3=>
 some (((decide (a0.Name=b0.Name)&&decide (a0.bA=b0.bA))&&decide (a0.Weight=b0.Weight))&&y3)
theorem alQ(S:bB)(w:World)(a0:Line)(dz:ak.R Line)(b0:Line)(aK:ak.R Line)(y:Bool)(hM:Qg a0 b0=some y)(hS:sB S w)(rH:ak.ok S w dz a0)(mG:ak.ok S w aK b0):
  Calls Tryz.prog 61 #[.agg (IY a0 dz),.agg (IY b0 aK)] w (cu w (.bool y)):=by
 refine bP (args:=[_,_]) Tryz.func61 rfl ((pre_nil hS).start |>.bU (α:=List dD) (r:=dz) (x:=a0.bL) rH|>.bU (α:=List dD) (r:=aK) (x:=b0.bL) mG) rfl ?_;unfold Qg at hM;refine sr ?_;refine oB (mV a0 dz) fun b1=>?_;refine oB (mV b0 aK) fun b2=>?_;refine aP ?_;refine sr ?_;refine oe (aD 0) ?_;refine oe (aJ (b:=b1)) ?_;refine oe (aD 0) ?_;refine oe (aJ (b:=b2)) ?_;refine oe mF ?_;refine om ?_;refine av rfl (aD 1) ?_;refine av rfl (aJ (b:=b1)) ?_;refine av rfl (aD 1) ?_;refine av rfl (aJ (b:=b2)) ?_;refine av rfl eu ?_;refine oe dI ?_;refine om ?_;refine av rfl (aD 2) ?_;refine av rfl (aJ (b:=b1)) ?_;refine av rfl (aD 2) ?_;refine av rfl (aJ (b:=b2)) ?_;refine av rfl eu ?_;refine oe dI ?_;refine om ?_;refine av rfl (aD 3) ?_;refine av rfl (aJ (b:=b1)) ?_;refine av rfl (aD 3) ?_;refine av rfl (aJ (b:=b2)) ?_
 obtain⟨y3,hy4,hM⟩:=bind_some hM;refine cg rfl (fun hg hs=>alW _ _ a0.bL dz b0.bL aK y3 (fu hy4 hg) (bC hs) (kM hs) (kM hs)) ?_;refine oe dI ?_;refine aP ?_;exact aW (bN hM)
def aed:Unit→Option Bool:=fun _=>
 some true
def Qh(a0:Plan)(b0:Plan)(aY:Nat→Option Bool):Nat→Option Bool:=fun yV=>
 if decide ((yV:Int)<(a0.Lines.length:Int)) then
  ((idx a0.Lines (yV:Int)).bind fun x18=>
  (idx b0.Lines (yV:Int)).bind fun x20=>
  (Qg x18 x20).bind fun y22=>
  if (!y22) then
   (some false)
  else
   (aY (yV+1)))
 else
  (aed ())
def Qi(a0:Plan)(b0:Plan):Option Bool:=
 (fV (!(decide (a0.bR≠b0.bR))) default (Qv a0.aU b0.aU)).bind fun y3=>
 (fV (!(decide (a0.bR≠b0.bR)||(!y3))) default (Ql a0.Routes b0.Routes)).bind fun y5=>
 (fV (!(((decide (a0.bR≠b0.bR)||(!y3))||(!y5))||decide ((a0.Lines.length:Int)≠(b0.Lines.length:Int)))) default (Qn a0.Changes b0.Changes)).bind fun y7=>
 (fV (!((((decide (a0.bR≠b0.bR)||(!y3))||(!y5))||decide ((a0.Lines.length:Int)≠(b0.Lines.length:Int)))||(!y7))) default (Qz a0.Turns b0.Turns)).bind fun y9=>
 (fV (!(((((decide (a0.bR≠b0.bR)||(!y3))||(!y5))||decide ((a0.Lines.length:Int)≠(b0.Lines.length:Int)))||(!y7))||(!y9))) default (Qx a0.bq b0.bq)).bind fun fA=>
 (fV (!((((((decide (a0.bR≠b0.bR)||(!y3))||(!y5))||decide ((a0.Lines.length:Int)≠(b0.Lines.length:Int)))||(!y7))||(!y9))||(!fA))) default (Qp a0.bg b0.bg)).bind fun y13=>
 if (((((((decide (a0.bR≠b0.bR)||(!y3))||(!y5))||decide ((a0.Lines.length:Int)≠(b0.Lines.length:Int)))||(!y7))||(!y9))||(!fA))||(!y13)) then
  (some false)
 else
  (iter (Qh a0 b0) FUEL 0)
theorem alR(S:bB)(w:World)(a0:Plan)(dz:ak.R Plan)(b0:Plan)(aK:ak.R Plan)(y:Bool)(hM:Qi a0 b0=some y)(hS:sB S w)(rH:ak.ok S w dz a0)(mG:ak.ok S w aK b0):
   Calls Tryz.prog 22 #[.agg (mY a0 dz),.agg (mY b0 aK)] w (cu w (.bool y)):=by
 refine bP (args:=[_,_]) Tryz.func22 rfl ((pre_nil hS).start |>.oC rH|>.oC mG) rfl ?_;unfold Qi at hM;refine sr ?_;refine oB (gZ a0 dz) fun b1=>?_
 refine oB (gZ b0 aK) fun b2=>?_;refine aP ?_;refine aG fun K2 hK2=>?_;refine sr ?_;refine oe (aD 0) ?_;refine oe (aJ (b:=b1)) ?_;refine oe (aD 0) ?_;refine oe (aJ (b:=b2)) ?_;refine oe iy ?_;refine om ?_;refine av rfl (aD 1) ?_;refine av rfl (aJ (b:=b1)) ?_;refine av rfl (aD 1) ?_;refine av rfl (aJ (b:=b2)) ?_;obtain⟨y3,hy4,hM⟩:=bind_some hM;refine cg rfl (fun hg hs=>alY _ _ a0.aU dz.1 b0.aU aK.1 y3 (fu hy4 hg) (bC hs) (kM hs) (kM hs)) ?_;refine av rfl fF ?_;refine oe eT ?_;refine om ?_;refine av rfl (aD 2) ?_;refine av rfl (aJ (b:=b1)) ?_;refine av rfl (aD 2) ?_;refine av rfl (aJ (b:=b2)) ?_;obtain⟨y5,kU,hM⟩:=bind_some hM;refine cg rfl (fun hg hs=>alT _ _ a0.Routes dz.2.1 b0.Routes aK.2.1 y5 (fu kU hg) (bC hs) (kM hs) (kM hs)) ?_
 refine av rfl fF ?_;refine oe eT ?_;refine om ?_;refine av rfl (aD 3) ?_;refine av rfl (aJ (b:=b1)) ?_;refine av rfl bJ ?_;refine av rfl (aD 3) ?_;refine av rfl (aJ (b:=b2)) ?_;refine av rfl bJ ?_;refine av rfl iy ?_;refine oe eT ?_;refine om ?_;refine av rfl (aD 4) ?_;refine av rfl (aJ (b:=b1)) ?_;refine av rfl (aD 4) ?_;refine av rfl (aJ (b:=b2)) ?_;obtain⟨y7,Ca,hM⟩:=bind_some hM;refine cg rfl (fun hg hs=>alU _ _ a0.Changes dz.2.2.2.1 b0.Changes aK.2.2.2.1 y7 (fu Ca hg) (bC hs) (kM hs) (kM hs)) ?_;refine av rfl fF ?_;refine oe eT ?_;refine om ?_;refine av rfl (aD 5) ?_;refine av rfl (aJ (b:=b1)) ?_;refine av rfl (aD 5) ?_;refine av rfl (aJ (b:=b2)) ?_;obtain⟨y9,EN,hM⟩:=bind_some hM;refine cg rfl (fun hg hs=>al0 _ _ a0.Turns dz.2.2.2.2.1 b0.Turns aK.2.2.2.2.1 y9 (fu EN hg) (bC hs) (kM hs) (kM hs)) ?_;refine av rfl fF ?_;refine oe eT ?_;refine om ?_;refine av rfl (aD 6) ?_;refine av rfl (aJ (b:=b1)) ?_;refine av rfl (aD 6) ?_;refine av rfl (aJ (b:=b2)) ?_;obtain⟨fA,uX,hM⟩:=bind_some hM;refine cg rfl (fun hg hs=>alZ _ _ a0.bq dz.2.2.2.2.2.1 b0.bq aK.2.2.2.2.2.1 fA (fu uX hg) (bC hs) (kM hs) (kM hs)) ?_
 refine av rfl fF ?_;refine oe eT ?_;refine om ?_;refine av rfl (aD 7) ?_;refine av rfl (aJ (b:=b1)) ?_;refine av rfl (aD 7) ?_;refine av rfl (aJ (b:=b2)) ?_;obtain⟨y13,xC,hM⟩:=bind_some hM;refine cg rfl (fun hg hs=>alV _ _ a0.bg dz.2.2.2.2.2.2 b0.bg aK.2.2.2.2.2.2 y13 (fu xC hg) (bC hs) (kM hs) (kM hs)) ?_;refine av rfl fF ?_;refine oe eT ?_;refine on ?_;refine cc rfl hM (fun EI hM=>?_) (fun EI hM=>?_)
 ·refine bD ?_;exact aW (bN hM)
 refine aX (hK2 _ _ ?_);clear hK2;refine aG fun K5 bS=>?_;refine sr ?_;refine oe (aD 3) ?_;refine oe (aJ (b:=b1)) ?_;refine iO (fun w hm=>Kn.len (kG a0.Lines dz.2.2.1) hm) fun adC=>?_;refine oe bJ ?_;refine om ?_;refine on ?_;refine bF ?_;refine lq hM (fun yV=>[(2,eP b1),(3,eP b2),(70,eI (a0.Lines.length:Int)),(71,eI (yV:Int))]) (fun yV=>[iL a0.aU dz.1,iL a0.Routes dz.2.1,iL a0.Lines dz.2.2.1,iL a0.Changes dz.2.2.2.1,iL a0.Turns dz.2.2.2.2.1,iL a0.bq dz.2.2.2.2.2.1,iL a0.bg dz.2.2.2.2.2.2,own b1 35 (gZ a0 dz),iL b0.aU aK.1,iL b0.Routes aK.2.1,iL b0.Lines aK.2.2.1,iL b0.Changes aK.2.2.2.1,iL b0.Turns aK.2.2.2.2.1,iL b0.bq aK.2.2.2.2.2.1,iL b0.bg aK.2.2.2.2.2.2,own b2 35 (gZ b0 aK)]) sS rI ?_
 clear hM;rintro aY yV hM gu hL1;dsimp only[Qh] at hM ⊢;refine sr ?_;refine oe cO ?_;refine on ?_;refine aG fun K8 eZ=>?_;refine cc rfl hM (fun hc17 hM=>?_) (fun hc17 hM=>?_)
 ·have aj8:=of_decide_eq_true hc17;refine aX (eZ _ _ ?_);clear eZ;refine aG fun K9 dU=>?_;refine bF ?_;refine aO ?_;refine aP ?_;refine aG fun o7 eH=>?_;refine iD _ (List.Sublist.refl _) ?_;refine ay 0 rfl (aD 3) ?_;refine ay 1 rfl (aJ (b:=b1)) ?_;refine ay 2 rfl aH ?_;obtain⟨x18,Ls,hM⟩:=bind_some hM;refine ay 3 rfl (bI (xs:=a0.Lines) 4 (kG a0.Lines dz.2.2.1) (iS Ls)) ?_;refine ay 4 rfl (fO (m:=4) (i:=(yV:Int)) (xs:=a0.Lines) (y:=x18) (l:=(mV x18 (dz.2.2.1.es (yV:Int).toNat))) 0 (kG a0.Lines dz.2.2.1) (fun _=>Ls)) ?_;refine ay 5 rfl (aD 3) ?_;refine ay 6 rfl (aJ (b:=b2)) ?_;refine ay 7 rfl aH ?_;obtain⟨x20,zn,hM⟩:=bind_some hM;refine ay 8 rfl (bI (xs:=b0.Lines) 4 (kG b0.Lines aK.2.2.1) (iS zn)) ?_;refine ay 9 rfl (fO (m:=4) (i:=(yV:Int)) (xs:=b0.Lines) (y:=x20) (l:=(mV x20 (aK.2.2.1.es (yV:Int).toNat))) 0 (kG b0.Lines aK.2.2.1) (fun _=>zn)) ?_
  obtain⟨y22,xE,hM⟩:=bind_some hM;refine eD 10 rfl (sV (fun hs=>alQ _ _ x18 (dz.2.2.1.es (yV:Int).toNat) x20 (aK.2.2.1.es (yV:Int).toNat) y22 xE (bC hs) (Kn.lend ((Sk.elem (Sk.dW (α:=List Line) (r:=dz.2.2.1) (x:=a0.Lines) hA) Ls)).kn hs) (Kn.lend ((Sk.elem (Sk.dW (α:=List Line) (r:=aK.2.2.1) (x:=b0.Lines) hA) zn)).kn hs)) ⟨rI,?_⟩);refine ay 11 rfl fF ?_;refine dY (eH _ _ ?_);clear eH;refine cc rfl hM (fun hc24 hM=>?_) (fun hc24 hM=>?_)
  · refine bD ?_;exact aW (bN hM)
  refine aX (dU _ _ ?_);clear dU;refine aZ ?_;refine oe (dH (hr:=fun _=>by unfold d9;omega)) ?_;refine om ?_;refine bf (hL1 hM sS rI)
 refine dL (bS _ _ ?_);clear bS;dsimp only[aed] at hM;refine bD ?_;exact aW (bN hM)
end Go.Proofs.YtcalibhfgdncaaaGreatDoor

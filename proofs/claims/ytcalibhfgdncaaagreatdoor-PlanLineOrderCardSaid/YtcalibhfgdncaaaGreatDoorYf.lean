/- Functions: models, proved of the code. -/
import Derived.Test.YtcalibhfgdncaaaGreatDoorOf
namespace Go.Proofs.YtcalibhfgdncaaaGreatDoor
open Go.Dc Go.RowKit
attribute [local irreducible] CW OW AW AZ Ev
set_option maxHeartbeats 0
set_option maxRecDepth 10000
set_option linter.all false
def ahW:Unit→Option Bool:=fun _=>
 some true
def TM(a0:List aQ)(b0:List aQ)(aK:Nat→Option Bool):Nat→Option Bool:=fun fA=>
 if decide ((fA:Int)<(a0.length:Int)) then
  ((idx a0 (fA:Int)).bind fun x4=>
  (idx b0 (fA:Int)).bind fun x6=>
  if (!decide (x4=x6)) then
   (some false)
  else
   (aK (fA+1)))
 else
  (ahW ())
def TN(a0:List aQ)(b0:List aQ):Option Bool:=
 if decide ((a0.length:Int)≠(b0.length:Int)) then
  (some false)
 else
  (iter (TM a0 b0) FUEL 0)
theorem asg(S:aW)(w:World)(a0:List aQ)(fZ:ah.R (List aQ))(b0:List aQ)(aV:ah.R (List aQ))(y:Bool)(hM:TN a0 b0=some y)(hS:sB S w)(rX:ah.ok S w fZ a0)(mY:ah.ok S w aV b0):
   Calls Tryz.prog 55 #[sL fZ a0,sL aV b0] w (bM w (.bool y)):=by
 refine bF (args:=[_,_]) Tryz.func55 rfl ((pre_nil hS).start |>.bG rX|>.bG mY) rfl ?_;unfold TN at hM;refine aJ ?_;refine au fun K2 hK2=>?_;refine go ?_;refine co hM (fun hc1 hM=>?_) (fun hc1 hM=>?_)
 ·refine aJ ?_;exact aF (aZ hM)
 refine cs hK2 ?_;refine au fun K5 dx=>?_;refine aR ?_;refine kK (fun w hm=>Kn.len (kG a0 fZ) hm) fun hl2=>?_;refine go ?_;refine lk hM [0,1,12] (fun fA=>[(13,eI (fA:Int))]) [] (fun fA=>[]) ?_;clear hM;rintro aK fA hM eO hL1;dsimp only[TM,cA,nA] at hM ⊢;refine sr ?_;refine oe gq ?_;refine on ?_;refine au fun K8 gP=>?_;refine co hM (fun hc3 hM=>?_) (fun hc3 hM=>?_)
 ·have IQ:=of_decide_eq_true hc3;refine cs gP ?_;refine au fun K9 fH=>?_;refine bI ?_;refine aR ?_;refine aN ?_;refine au fun nG gH=>?_;refine dS _ (List.Sublist.refl _) ?_;refine am 0 ?_;refine am 1 ?_;refine kH 2 5 5 (fun x4=>(rD x4)) (kG a0 fZ) hM fun x4 hx5 hM=>?_;refine am 4 ?_;refine am 5 ?_;refine kH 6 5 5 (fun x6=>(rD x6)) (kG b0 aV) hM fun x6 hx7 hM=>?_;refine ay 8 rfl (KU [.string,.int .i64,.int .i64,.int .i64,.int .i64] (decide (x4=x6)) (amc _ _)) ?_;refine bS (gH _ _ ?_);refine co hM (fun hc8 hM=>?_) (fun hc8 hM=>?_)
  · refine aJ ?_;exact aF (aZ hM)
  refine cs fH ?_;refine bg ?_;refine oe (dP (hr:=fun _=>by unfold gN;omega)) ?_;refine om ?_;refine bq (hL1 hM sS rI)
 refine cx dx ?_;dsimp only[ahW] at hM;refine aJ ?_;exact aF (aZ hM)
def ahV:Unit→Option Bool:=fun _=>
 some true
def TK(a0:List Step)(b0:List Step)(aK:Nat→Option Bool):Nat→Option Bool:=fun fA=>
 if decide ((fA:Int)<(a0.length:Int)) then
  ((idx a0 (fA:Int)).bind fun x4=>
  (idx b0 (fA:Int)).bind fun x6=>
  if (!decide (x4=x6)) then
   (some false)
  else
   (aK (fA+1)))
 else
  (ahV ())
def TL(a0:List Step)(b0:List Step):Option Bool:=
 if decide ((a0.length:Int)≠(b0.length:Int)) then
  (some false)
 else
  (iter (TK a0 b0) FUEL 0)
theorem asf(S:aW)(w:World)(a0:List Step)(fZ:ah.R (List Step))(b0:List Step)(aV:ah.R (List Step))(y:Bool)(hM:TL a0 b0=some y)(hS:sB S w)(rX:ah.ok S w fZ a0)(mY:ah.ok S w aV b0):
   Calls Tryz.prog 167 #[sL fZ a0,sL aV b0] w (bM w (.bool y)):=by
 refine bF (args:=[_,_]) Tryz.func167 rfl ((pre_nil hS).start |>.bG rX|>.bG mY) rfl ?_;unfold TL at hM;refine aJ ?_;refine au fun K2 hK2=>?_;refine go ?_;refine co hM (fun hc1 hM=>?_) (fun hc1 hM=>?_)
 ·refine aJ ?_;exact aF (aZ hM)
 refine cs hK2 ?_;refine au fun K5 dx=>?_;refine aR ?_;refine kK (fun w hm=>Kn.len (kG a0 fZ) hm) fun hl2=>?_;refine go ?_;refine lk hM [0,1,12] (fun fA=>[(13,eI (fA:Int))]) [] (fun fA=>[]) ?_;clear hM;rintro aK fA hM eO hL1;dsimp only[TK,cA,nA] at hM ⊢;refine sr ?_;refine oe gq ?_;refine on ?_;refine au fun K8 gP=>?_;refine co hM (fun hc3 hM=>?_) (fun hc3 hM=>?_)
 ·have IQ:=of_decide_eq_true hc3;refine cs gP ?_;refine au fun K9 fH=>?_;refine bI ?_;refine aR ?_;refine aN ?_;refine au fun nG gH=>?_;refine dS _ (List.Sublist.refl _) ?_;refine am 0 ?_;refine am 1 ?_;refine kH 2 2 2 (fun x4=>(qd x4)) (kG a0 fZ) hM fun x4 hx5 hM=>?_;refine am 4 ?_;refine am 5 ?_;refine kH 6 2 2 (fun x6=>(qd x6)) (kG b0 aV) hM fun x6 hx7 hM=>?_;refine ay 8 rfl (KU [.int .i64,.int .i64] (decide (x4=x6)) (agt _ _)) ?_;refine bS (gH _ _ ?_);refine co hM (fun hc8 hM=>?_) (fun hc8 hM=>?_)
  · refine aJ ?_;exact aF (aZ hM)
  refine cs fH ?_;refine bg ?_;refine oe (dP (hr:=fun _=>by unfold gN;omega)) ?_;refine om ?_;refine bq (hL1 hM sS rI)
 refine cx dx ?_;dsimp only[ahV] at hM;refine aJ ?_;exact aF (aZ hM)
def Tz(a0:aG)(b0:aG):Option Bool:=
 (dH (decide (a0.Overlap=b0.Overlap)) default (TL a0.Steps b0.Steps)).bind fun y3=>
 some (decide (a0.Overlap=b0.Overlap)&&y3)
theorem ar9(S:aW)(w:World)(a0:aG)(fZ:ah.R aG)(b0:aG)(aV:ah.R aG)(y:Bool)(hM:Tz a0 b0=some y)(hS:sB S w)(rX:ah.ok S w fZ a0)(mY:ah.ok S w aV b0):
  Calls Tryz.prog 120 #[.agg (xC a0 fZ),.agg (xC b0 aV)] w (bM w (.bool y)):=by
 refine bF (args:=[_,_]) Tryz.func120 rfl ((pre_nil hS).start |>.bG rX|>.bG mY) rfl ?_;unfold Tz at hM;refine sr ?_;refine oB (nV a0 fZ) fun b1=>?_;refine oB (nV b0 aV) fun b2=>?_;refine go ?_;obtain⟨y3,hy4,hM⟩:=bind_some hM;refine cg rfl (fun hg hs=>asf _ _ a0.Steps fZ b0.Steps aV y3 (cu hy4 hg) (aM hs) (kM hs) (kM hs)) ?_;refine oe rR ?_;refine aN ?_;exact aF (aZ hM)
def ahR:Unit→Option Bool:=fun _=>
 some true
def TA(a0:List aG)(b0:List aG)(aK:Nat→Option Bool):Nat→Option Bool:=fun fA=>
 if decide ((fA:Int)<(a0.length:Int)) then
  ((idx a0 (fA:Int)).bind fun x4=>
  (idx b0 (fA:Int)).bind fun x6=>
  (Tz x4 x6).bind fun y8=>
  if (!y8) then
   (some false)
  else
   (aK (fA+1)))
 else
  (ahR ())
def TB(a0:List aG)(b0:List aG):Option Bool:=
 if decide ((a0.length:Int)≠(b0.length:Int)) then
  (some false)
 else
  (iter (TA a0 b0) FUEL 0)
theorem asa(S:aW)(w:World)(a0:List aG)(fZ:ah.R (List aG))(b0:List aG)(aV:ah.R (List aG))(y:Bool)(hM:TB a0 b0=some y)(hS:sB S w)(rX:ah.ok S w fZ a0)(mY:ah.ok S w aV b0):
   Calls Tryz.prog 56 #[sL fZ a0,sL aV b0] w (bM w (.bool y)):=by
 refine bF (args:=[_,_]) Tryz.func56 rfl ((pre_nil hS).start |>.bG rX|>.bG mY) rfl ?_;unfold TB at hM;refine aJ ?_;refine au fun K2 hK2=>?_;refine go ?_;refine co hM (fun hc1 hM=>?_) (fun hc1 hM=>?_)
 ·refine aJ ?_;exact aF (aZ hM)
 refine cs hK2 ?_;refine au fun K5 dx=>?_;refine aR ?_;refine kK (fun w hm=>Kn.len (kG a0 fZ) hm) fun hl2=>?_;refine go ?_;refine lk hM [0,1,12] (fun fA=>[(13,eI (fA:Int))]) [] (fun fA=>[]) ?_;clear hM;rintro aK fA hM eO hL1;dsimp only[TA,cA,nA] at hM ⊢;refine sr ?_;refine oe gq ?_;refine on ?_;refine au fun K8 gP=>?_;refine co hM (fun hc3 hM=>?_) (fun hc3 hM=>?_)
 ·have IQ:=of_decide_eq_true hc3;refine cs gP ?_;refine au fun K9 fH=>?_;refine bI ?_;refine aR ?_;refine aN ?_;refine au fun nG gH=>?_;refine dS _ (List.Sublist.refl _) ?_;refine am 0 ?_;refine am 1 ?_;refine kH 2 2 2 (fun x4=>(nV x4 (fZ.es (fA:Int).toNat))) (kG a0 fZ) hM fun x4 hx5 hM=>?_;refine am 4 ?_;refine am 5 ?_;refine kH 6 2 2 (fun x6=>(nV x6 (aV.es (fA:Int).toNat))) (kG b0 aV) hM fun x6 hx7 hM=>?_;obtain⟨y8,nT,hM⟩:=bind_some hM;refine bT 8 rfl (sV (fun hs=>ar9 _ _ x4 (fZ.es (fA:Int).toNat) x6 (aV.es (fA:Int).toNat) y8 nT (aM hs) (Kn.lend ((Sk.elem (Sk.dw (α:=List aG) (r:=fZ) (x:=a0) hA) hx5)).kn hs) (Kn.lend ((Sk.elem (Sk.dw (α:=List aG) (r:=aV) (x:=b0) hA) hx7)).kn hs)) ⟨rI,?_⟩);refine ay 9 rfl iC ?_;refine bS (gH _ _ ?_);refine co hM (fun tH hM=>?_) (fun tH hM=>?_)
  · refine aJ ?_;exact aF (aZ hM)
  refine cs fH ?_;refine bg ?_;refine oe (dP (hr:=fun _=>by unfold gN;omega)) ?_;refine om ?_;refine bq (hL1 hM sS rI)
 refine cx dx ?_;dsimp only[ahR] at hM;refine aJ ?_;exact aF (aZ hM)
def ahS:Unit→Option Bool:=fun _=>
 some true
def TD(a0:List Change)(b0:List Change)(aK:Nat→Option Bool):Nat→Option Bool:=fun fA=>
 if decide ((fA:Int)<(a0.length:Int)) then
  ((idx a0 (fA:Int)).bind fun x4=>
  (idx b0 (fA:Int)).bind fun x6=>
  if (!decide (x4=x6)) then
   (some false)
  else
   (aK (fA+1)))
 else
  (ahS ())
def TF(a0:List Change)(b0:List Change):Option Bool:=
 if decide ((a0.length:Int)≠(b0.length:Int)) then
  (some false)
 else
  (iter (TD a0 b0) FUEL 0)
theorem asb(S:aW)(w:World)(a0:List Change)(fZ:ah.R (List Change))(b0:List Change)(aV:ah.R (List Change))(y:Bool)(hM:TF a0 b0=some y)(hS:sB S w)(rX:ah.ok S w fZ a0)(mY:ah.ok S w aV b0):
   Calls Tryz.prog 57 #[sL fZ a0,sL aV b0] w (bM w (.bool y)):=by
 refine bF (args:=[_,_]) Tryz.func57 rfl ((pre_nil hS).start |>.bG rX|>.bG mY) rfl ?_;unfold TF at hM;refine aJ ?_;refine au fun K2 hK2=>?_;refine go ?_;refine co hM (fun hc1 hM=>?_) (fun hc1 hM=>?_)
 ·refine aJ ?_;exact aF (aZ hM)
 refine cs hK2 ?_;refine au fun K5 dx=>?_;refine aR ?_;refine kK (fun w hm=>Kn.len (kG a0 fZ) hm) fun hl2=>?_;refine go ?_;refine lk hM [0,1,12] (fun fA=>[(13,eI (fA:Int))]) [] (fun fA=>[]) ?_;clear hM;rintro aK fA hM eO hL1;dsimp only[TD,cA,nA] at hM ⊢;refine sr ?_;refine oe gq ?_;refine on ?_;refine au fun K8 gP=>?_;refine co hM (fun hc3 hM=>?_) (fun hc3 hM=>?_)
 ·have IQ:=of_decide_eq_true hc3;refine cs gP ?_;refine au fun K9 fH=>?_;refine bI ?_;refine aR ?_;refine aN ?_;refine au fun nG gH=>?_;refine dS _ (List.Sublist.refl _) ?_;refine am 0 ?_;refine am 1 ?_;refine kH 2 7 7 (fun x4=>(GD x4)) (kG a0 fZ) hM fun x4 hx5 hM=>?_;refine am 4 ?_;refine am 5 ?_;refine kH 6 7 7 (fun x6=>(GD x6)) (kG b0 aV) hM fun x6 hx7 hM=>?_;refine ay 8 rfl (KU [.int .i64,.int .i64,.int .i64,.int .i64,.int .i64,.int .i64,.int .i64] (decide (x4=x6)) (alN _ _)) ?_;refine bS (gH _ _ ?_);refine co hM (fun hc8 hM=>?_) (fun hc8 hM=>?_)
  · refine aJ ?_;exact aF (aZ hM)
  refine cs fH ?_;refine bg ?_;refine oe (dP (hr:=fun _=>by unfold gN;omega)) ?_;refine om ?_;refine bq (hL1 hM sS rI)
 refine cx dx ?_;dsimp only[ahS] at hM;refine aJ ?_;exact aF (aZ hM)
def ahY:Unit→Option Bool:=fun _=>
 some true
def TR(a0:List Turn)(b0:List Turn)(aK:Nat→Option Bool):Nat→Option Bool:=fun fA=>
 if decide ((fA:Int)<(a0.length:Int)) then
  ((idx a0 (fA:Int)).bind fun x4=>
  (idx b0 (fA:Int)).bind fun x6=>
  if (!decide (x4=x6)) then
   (some false)
  else
   (aK (fA+1)))
 else
  (ahY ())
def TS(a0:List Turn)(b0:List Turn):Option Bool:=
 if decide ((a0.length:Int)≠(b0.length:Int)) then
  (some false)
 else
  (iter (TR a0 b0) FUEL 0)
theorem asi(S:aW)(w:World)(a0:List Turn)(fZ:ah.R (List Turn))(b0:List Turn)(aV:ah.R (List Turn))(y:Bool)(hM:TS a0 b0=some y)(hS:sB S w)(rX:ah.ok S w fZ a0)(mY:ah.ok S w aV b0):
   Calls Tryz.prog 58 #[sL fZ a0,sL aV b0] w (bM w (.bool y)):=by
 refine bF (args:=[_,_]) Tryz.func58 rfl ((pre_nil hS).start |>.bG rX|>.bG mY) rfl ?_;unfold TS at hM;refine aJ ?_;refine au fun K2 hK2=>?_;refine go ?_;refine co hM (fun hc1 hM=>?_) (fun hc1 hM=>?_)
 ·refine aJ ?_;exact aF (aZ hM)
 refine cs hK2 ?_;refine au fun K5 dx=>?_;refine aR ?_;refine kK (fun w hm=>Kn.len (kG a0 fZ) hm) fun hl2=>?_;refine go ?_;refine lk hM [0,1,12] (fun fA=>[(13,eI (fA:Int))]) [] (fun fA=>[]) ?_;clear hM;rintro aK fA hM eO hL1;dsimp only[TR,cA,nA] at hM ⊢;refine sr ?_;refine oe gq ?_;refine on ?_;refine au fun K8 gP=>?_;refine co hM (fun hc3 hM=>?_) (fun hc3 hM=>?_)
 ·have IQ:=of_decide_eq_true hc3;refine cs gP ?_;refine au fun K9 fH=>?_;refine bI ?_;refine aR ?_;refine aN ?_;refine au fun nG gH=>?_;refine dS _ (List.Sublist.refl _) ?_;refine am 0 ?_;refine am 1 ?_;refine kH 2 4 4 (fun x4=>(zZ x4)) (kG a0 fZ) hM fun x4 hx5 hM=>?_;refine am 4 ?_;refine am 5 ?_;refine kH 6 4 4 (fun x6=>(zZ x6)) (kG b0 aV) hM fun x6 hx7 hM=>?_;refine ay 8 rfl (KU [.int .i64,.int .i64,.int .i64,.int .i64] (decide (x4=x6)) (ame _ _)) ?_;refine bS (gH _ _ ?_);refine co hM (fun hc8 hM=>?_) (fun hc8 hM=>?_)
  · refine aJ ?_;exact aF (aZ hM)
  refine cs fH ?_;refine bg ?_;refine oe (dP (hr:=fun _=>by unfold gN;omega)) ?_;refine om ?_;refine bq (hL1 hM sS rI)
 refine cx dx ?_;dsimp only[ahY] at hM;refine aJ ?_;exact aF (aZ hM)
def ahX:Unit→Option Bool:=fun _=>
 some true
def TP(a0:List Sync)(b0:List Sync)(aK:Nat→Option Bool):Nat→Option Bool:=fun fA=>
 if decide ((fA:Int)<(a0.length:Int)) then
  ((idx a0 (fA:Int)).bind fun x4=>
  (idx b0 (fA:Int)).bind fun x6=>
  if (!decide (x4=x6)) then
   (some false)
  else
   (aK (fA+1)))
 else
  (ahX ())
def TQ(a0:List Sync)(b0:List Sync):Option Bool:=
 if decide ((a0.length:Int)≠(b0.length:Int)) then
  (some false)
 else
  (iter (TP a0 b0) FUEL 0)
theorem ash(S:aW)(w:World)(a0:List Sync)(fZ:ah.R (List Sync))(b0:List Sync)(aV:ah.R (List Sync))(y:Bool)(hM:TQ a0 b0=some y)(hS:sB S w)(rX:ah.ok S w fZ a0)(mY:ah.ok S w aV b0):
   Calls Tryz.prog 59 #[sL fZ a0,sL aV b0] w (bM w (.bool y)):=by
 refine bF (args:=[_,_]) Tryz.func59 rfl ((pre_nil hS).start |>.bG rX|>.bG mY) rfl ?_;unfold TQ at hM;refine aJ ?_;refine au fun K2 hK2=>?_;refine go ?_;refine co hM (fun hc1 hM=>?_) (fun hc1 hM=>?_)
 ·refine aJ ?_;exact aF (aZ hM)
 refine cs hK2 ?_;refine au fun K5 dx=>?_;refine aR ?_;refine kK (fun w hm=>Kn.len (kG a0 fZ) hm) fun hl2=>?_;refine go ?_;refine lk hM [0,1,12] (fun fA=>[(13,eI (fA:Int))]) [] (fun fA=>[]) ?_;clear hM;rintro aK fA hM eO hL1;dsimp only[TP,cA,nA] at hM ⊢;refine sr ?_;refine oe gq ?_;refine on ?_;refine au fun K8 gP=>?_;refine co hM (fun hc3 hM=>?_) (fun hc3 hM=>?_)
 ·have IQ:=of_decide_eq_true hc3;refine cs gP ?_;refine au fun K9 fH=>?_;refine bI ?_;refine aR ?_;refine aN ?_;refine au fun nG gH=>?_;refine dS _ (List.Sublist.refl _) ?_;refine am 0 ?_;refine am 1 ?_;refine kH 2 5 5 (fun x4=>(Jh x4)) (kG a0 fZ) hM fun x4 hx5 hM=>?_;refine am 4 ?_;refine am 5 ?_;refine kH 6 5 5 (fun x6=>(Jh x6)) (kG b0 aV) hM fun x6 hx7 hM=>?_;refine ay 8 rfl (KU [.int .i64,.int .i64,.int .i64,.int .i64,.int .i64] (decide (x4=x6)) (amd _ _)) ?_;refine bS (gH _ _ ?_);refine co hM (fun hc8 hM=>?_) (fun hc8 hM=>?_)
  · refine aJ ?_;exact aF (aZ hM)
  refine cs fH ?_;refine bg ?_;refine oe (dP (hr:=fun _=>by unfold gN;omega)) ?_;refine om ?_;refine bq (hL1 hM sS rI)
 refine cx dx ?_;dsimp only[ahX] at hM;refine aJ ?_;exact aF (aZ hM)
def ahT:Unit→Option Bool:=fun _=>
 some true
def TG(a0:List bZ)(b0:List bZ)(aK:Nat→Option Bool):Nat→Option Bool:=fun fA=>
 if decide ((fA:Int)<(a0.length:Int)) then
  ((idx a0 (fA:Int)).bind fun x4=>
  (idx b0 (fA:Int)).bind fun x6=>
  if (!decide (x4=x6)) then
   (some false)
  else
   (aK (fA+1)))
 else
  (ahT ())
def TH(a0:List bZ)(b0:List bZ):Option Bool:=
 if decide ((a0.length:Int)≠(b0.length:Int)) then
  (some false)
 else
  (iter (TG a0 b0) FUEL 0)
theorem asc(S:aW)(w:World)(a0:List bZ)(fZ:ah.R (List bZ))(b0:List bZ)(aV:ah.R (List bZ))(y:Bool)(hM:TH a0 b0=some y)(hS:sB S w)(rX:ah.ok S w fZ a0)(mY:ah.ok S w aV b0):
   Calls Tryz.prog 60 #[sL fZ a0,sL aV b0] w (bM w (.bool y)):=by
 refine bF (args:=[_,_]) Tryz.func60 rfl ((pre_nil hS).start |>.bG rX|>.bG mY) rfl ?_;unfold TH at hM;refine aJ ?_;refine au fun K2 hK2=>?_;refine go ?_;refine co hM (fun hc1 hM=>?_) (fun hc1 hM=>?_)
 ·refine aJ ?_;exact aF (aZ hM)
 refine cs hK2 ?_;refine au fun K5 dx=>?_;refine aR ?_;refine kK (fun w hm=>Kn.len (kG a0 fZ) hm) fun hl2=>?_;refine go ?_;refine lk hM [0,1,12] (fun fA=>[(13,eI (fA:Int))]) [] (fun fA=>[]) ?_;clear hM;rintro aK fA hM eO hL1;dsimp only[TG,cA,nA] at hM ⊢;refine sr ?_;refine oe gq ?_;refine on ?_;refine au fun K8 gP=>?_;refine co hM (fun hc3 hM=>?_) (fun hc3 hM=>?_)
 ·have IQ:=of_decide_eq_true hc3;refine cs gP ?_;refine au fun K9 fH=>?_;refine bI ?_;refine aR ?_;refine aN ?_;refine au fun nG gH=>?_;refine dS _ (List.Sublist.refl _) ?_;refine am 0 ?_;refine am 1 ?_;refine kH 2 3 3 (fun x4=>(Jg x4)) (kG a0 fZ) hM fun x4 hx5 hM=>?_;refine am 4 ?_;refine am 5 ?_;refine kH 6 3 3 (fun x6=>(Jg x6)) (kG b0 aV) hM fun x6 hx7 hM=>?_;refine ay 8 rfl (KU [.int .i64,.int .i64,.int .i64] (decide (x4=x6)) (alP _ _)) ?_;refine bS (gH _ _ ?_);refine co hM (fun hc8 hM=>?_) (fun hc8 hM=>?_)
  · refine aJ ?_;exact aF (aZ hM)
  refine cs fH ?_;refine bg ?_;refine oe (dP (hr:=fun _=>by unfold gN;omega)) ?_;refine om ?_;refine bq (hL1 hM sS rI)
 refine cx dx ?_;dsimp only[ahT] at hM;refine aJ ?_;exact aF (aZ hM)
def ahU:Unit→Option Bool:=fun _=>
 some true
def TI(a0:List bW)(b0:List bW)(aK:Nat→Option Bool):Nat→Option Bool:=fun fA=>
 if decide ((fA:Int)<(a0.length:Int)) then
  ((idx a0 (fA:Int)).bind fun x4=>
  (idx b0 (fA:Int)).bind fun x6=>
  if (!decide (x4=x6)) then
   (some false)
  else
   (aK (fA+1)))
 else
  (ahU ())
def TJ(a0:List bW)(b0:List bW):Option Bool:=
 if decide ((a0.length:Int)≠(b0.length:Int)) then
  (some false)
 else
  (iter (TI a0 b0) FUEL 0)
theorem ase(S:aW)(w:World)(a0:List bW)(fZ:ah.R (List bW))(b0:List bW)(aV:ah.R (List bW))(y:Bool)(hM:TJ a0 b0=some y)(hS:sB S w)(rX:ah.ok S w fZ a0)(mY:ah.ok S w aV b0):
   Calls Tryz.prog 121 #[sL fZ a0,sL aV b0] w (bM w (.bool y)):=by
 refine bF (args:=[_,_]) Tryz.func121 rfl ((pre_nil hS).start |>.bG rX|>.bG mY) rfl ?_;unfold TJ at hM;refine aJ ?_;refine au fun K2 hK2=>?_;refine go ?_;refine co hM (fun hc1 hM=>?_) (fun hc1 hM=>?_)
 ·refine aJ ?_;exact aF (aZ hM)
 refine cs hK2 ?_;refine au fun K5 dx=>?_;refine aR ?_;refine kK (fun w hm=>Kn.len (kG a0 fZ) hm) fun hl2=>?_;refine go ?_;refine lk hM [0,1,12] (fun fA=>[(13,eI (fA:Int))]) [] (fun fA=>[]) ?_;clear hM;rintro aK fA hM eO hL1;dsimp only[TI,cA,nA] at hM ⊢;refine sr ?_;refine oe gq ?_;refine on ?_;refine au fun K8 gP=>?_;refine co hM (fun hc3 hM=>?_) (fun hc3 hM=>?_)
 ·have IQ:=of_decide_eq_true hc3;refine cs gP ?_;refine au fun K9 fH=>?_;refine bI ?_;refine aR ?_;refine aN ?_;refine au fun nG gH=>?_;refine dS _ (List.Sublist.refl _) ?_;refine am 0 ?_;refine am 1 ?_;refine kH 2 4 4 (fun x4=>(zY x4)) (kG a0 fZ) hM fun x4 hx5 hM=>?_;refine am 4 ?_;refine am 5 ?_;refine kH 6 4 4 (fun x6=>(zY x6)) (kG b0 aV) hM fun x6 hx7 hM=>?_;refine ay 8 rfl (KU [.int .i64,.int .i64,.int .i64,.int .i64] (decide (x4=x6)) (amb _ _)) ?_;refine bS (gH _ _ ?_);refine co hM (fun hc8 hM=>?_) (fun hc8 hM=>?_)
  · refine aJ ?_;exact aF (aZ hM)
  refine cs fH ?_;refine bg ?_;refine oe (dP (hr:=fun _=>by unfold gN;omega)) ?_;refine om ?_;refine bq (hL1 hM sS rI)
 refine cx dx ?_;dsimp only[ahU] at hM;refine aJ ?_;exact aF (aZ hM)
def Tv(a0:Line)(b0:Line):Option Bool:=
 (dH ((decide (a0.Name=b0.Name)&&decide (a0.aQ=b0.aQ))&&decide (a0.Weight=b0.Weight)) default (TJ a0.bD b0.bD)).bind fun y3=>
 some (((decide (a0.Name=b0.Name)&&decide (a0.aQ=b0.aQ))&&decide (a0.Weight=b0.Weight))&&y3)
theorem ar7(S:aW)(w:World)(a0:Line)(fZ:ah.R Line)(b0:Line)(aV:ah.R Line)(y:Bool)(hM:Tv a0 b0=some y)(hS:sB S w)(rX:ah.ok S w fZ a0)(mY:ah.ok S w aV b0):
  Calls Tryz.prog 61 #[.agg (KF a0 fZ),.agg (KF b0 aV)] w (bM w (.bool y)):=by
 refine bF (args:=[_,_]) Tryz.func61 rfl ((pre_nil hS).start |>.bG rX|>.bG mY) rfl ?_;unfold Tv at hM;refine sr ?_;refine oB (mH a0 fZ) fun b1=>?_;refine oB (mH b0 aV) fun b2=>?_;refine go ?_;obtain⟨y3,hy4,hM⟩:=bind_some hM;refine cg rfl (fun hg hs=>ase _ _ a0.bD fZ b0.bD aV y3 (cu hy4 hg) (aM hs) (kM hs) (kM hs)) ?_;refine oe rR ?_;refine aN ?_;exact aF (aZ hM)
def ahQ:Unit→Option Bool:=fun _=>
 some true
def Tw(a0:Plan)(b0:Plan)(aK:Nat→Option Bool):Nat→Option Bool:=fun Dj=>
 if decide ((Dj:Int)<(a0.Lines.length:Int)) then
  ((idx a0.Lines (Dj:Int)).bind fun x18=>
  (idx b0.Lines (Dj:Int)).bind fun x20=>
  (Tv x18 x20).bind fun y22=>
  if (!y22) then
   (some false)
  else
   (aK (Dj+1)))
 else
  (ahQ ())
def Tx(a0:Plan)(b0:Plan):Option Bool:=
 (dH (!(decide (a0.bJ≠b0.bJ))) default (TN a0.aP b0.aP)).bind fun y3=>
 (dH (!(decide (a0.bJ≠b0.bJ)||(!y3))) default (TB a0.Routes b0.Routes)).bind fun y5=>
 (dH (!(((decide (a0.bJ≠b0.bJ)||(!y3))||(!y5))||decide ((a0.Lines.length:Int)≠(b0.Lines.length:Int)))) default (TF a0.Changes b0.Changes)).bind fun y7=>
 (dH (!((((decide (a0.bJ≠b0.bJ)||(!y3))||(!y5))||decide ((a0.Lines.length:Int)≠(b0.Lines.length:Int)))||(!y7))) default (TS a0.Turns b0.Turns)).bind fun y9=>
 (dH (!(((((decide (a0.bJ≠b0.bJ)||(!y3))||(!y5))||decide ((a0.Lines.length:Int)≠(b0.Lines.length:Int)))||(!y7))||(!y9))) default (TQ a0.bB b0.bB)).bind fun dR=>
 (dH (!((((((decide (a0.bJ≠b0.bJ)||(!y3))||(!y5))||decide ((a0.Lines.length:Int)≠(b0.Lines.length:Int)))||(!y7))||(!y9))||(!dR))) default (TH a0.bA b0.bA)).bind fun y13=>
 if (((((((decide (a0.bJ≠b0.bJ)||(!y3))||(!y5))||decide ((a0.Lines.length:Int)≠(b0.Lines.length:Int)))||(!y7))||(!y9))||(!dR))||(!y13)) then
  (some false)
 else
  (iter (Tw a0 b0) FUEL 0)
theorem ar8(S:aW)(w:World)(a0:Plan)(fZ:ah.R Plan)(b0:Plan)(aV:ah.R Plan)(y:Bool)(hM:Tx a0 b0=some y)(hS:sB S w)(rX:ah.ok S w fZ a0)(mY:ah.ok S w aV b0):
   Calls Tryz.prog 22 #[.agg (jI a0 fZ),.agg (jI b0 aV)] w (bM w (.bool y)):=by
 refine bF (args:=[_,_]) Tryz.func22 rfl ((pre_nil hS).start |>.jZ rX|>.jZ mY) rfl ?_;unfold Tx at hM;refine sr ?_;refine oB (kX a0 fZ) fun b1=>?_;refine oB (kX b0 aV) fun b2=>?_;refine aN ?_;refine au fun K2 hK2=>?_;refine go ?_;obtain⟨y3,hy4,hM⟩:=bind_some hM;refine cg rfl (fun hg hs=>asg _ _ a0.aP fZ.1 b0.aP aV.1 y3 (cu hy4 hg) (aM hs) (kM hs) (kM hs)) ?_;refine go ?_;obtain⟨y5,jW,hM⟩:=bind_some hM;refine cg rfl (fun hg hs=>asa _ _ a0.Routes fZ.2.1 b0.Routes aV.2.1 y5 (cu jW hg) (aM hs) (kM hs) (kM hs)) ?_;refine go ?_;obtain⟨y7,DT,hM⟩:=bind_some hM;refine cg rfl (fun hg hs=>asb _ _ a0.Changes fZ.2.2.2.1 b0.Changes aV.2.2.2.1 y7 (cu DT hg) (aM hs) (kM hs) (kM hs)) ?_;refine go ?_;obtain⟨y9,DL,hM⟩:=bind_some hM;refine cg rfl (fun hg hs=>asi _ _ a0.Turns fZ.2.2.2.2.1 b0.Turns aV.2.2.2.2.1 y9 (cu DL hg) (aM hs) (kM hs) (kM hs)) ?_;refine go ?_;obtain⟨dR,uy,hM⟩:=bind_some hM;refine cg rfl (fun hg hs=>ash _ _ a0.bB fZ.2.2.2.2.2.1 b0.bB aV.2.2.2.2.2.1 dR (cu uy hg) (aM hs) (kM hs) (kM hs)) ?_;refine go ?_;obtain⟨y13,qK,hM⟩:=bind_some hM;refine cg rfl (fun hg hs=>asc _ _ a0.bA fZ.2.2.2.2.2.2 b0.bA aV.2.2.2.2.2.2 y13 (cu qK hg) (aM hs) (kM hs) (kM hs)) ?_;refine bY rfl iC ?_;refine oe rT ?_;refine oc hM (fun rZ hM=>?_) (fun rZ hM=>?_)
 ·refine aJ ?_;exact aF (aZ hM)
 refine cs hK2 ?_;refine au fun K5 dx=>?_;refine sr ?_;refine fo 3 ?_;refine kK (fun w hm=>Kn.len (kG a0.Lines fZ.2.2.1) hm) fun ahA=>?_;refine go ?_;refine lk hM [2,3,70] (fun Dj=>[(71,eI (Dj:Int))]) [] (fun Dj=>[]) ?_;clear hM;rintro aK Dj hM eO hL1;dsimp only[Tw,cA,nA] at hM ⊢;refine sr ?_;refine oe gq ?_;refine on ?_;refine au fun K8 gP=>?_;refine co hM (fun hc17 hM=>?_) (fun hc17 hM=>?_)
 ·have ao0:=of_decide_eq_true hc17;refine cs gP ?_;refine au fun K9 fH=>?_;refine bI ?_;refine aR ?_;refine aN ?_;refine au fun nG gH=>?_;refine dS _ (List.Sublist.refl _) ?_;refine fa 0 3 ?_;refine am 2 ?_;refine kH 3 4 4 (fun x18=>(mH x18 (fZ.2.2.1.es (Dj:Int).toNat))) (kG a0.Lines fZ.2.2.1) hM fun x18 Lp hM=>?_;refine fa 5 3 ?_;refine am 7 ?_;refine kH 8 4 4 (fun x20=>(mH x20 (aV.2.2.1.es (Dj:Int).toNat))) (kG b0.Lines aV.2.2.1) hM fun x20 DJ hM=>?_;obtain⟨y22,uD,hM⟩:=bind_some hM;refine bT 10 rfl (sV (fun hs=>ar7 _ _ x18 (fZ.2.2.1.es (Dj:Int).toNat) x20 (aV.2.2.1.es (Dj:Int).toNat) y22 uD (aM hs) (Kn.lend ((Sk.elem (Sk.dw (α:=List Line) (r:=fZ.2.2.1) (x:=a0.Lines) hA) Lp)).kn hs) (Kn.lend ((Sk.elem (Sk.dw (α:=List Line) (r:=aV.2.2.1) (x:=b0.Lines) hA) DJ)).kn hs)) ⟨rI,?_⟩);refine ay 11 rfl iC ?_;refine bS (gH _ _ ?_);refine co hM (fun hc24 hM=>?_) (fun hc24 hM=>?_)
  · refine aJ ?_;exact aF (aZ hM)
  refine cs fH ?_;refine bg ?_;refine oe (dP (hr:=fun _=>by unfold gN;omega)) ?_;refine om ?_;refine bq (hL1 hM sS rI)
 refine cx dx ?_;dsimp only[ahQ] at hM;refine aJ ?_;exact aF (aZ hM)
end Go.Proofs.YtcalibhfgdncaaaGreatDoor

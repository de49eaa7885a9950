/- Functions: models, proved of the code. -/
import Derived.Test.YtcalibhfgdncaaaGreatDoorOf
namespace Go.Proofs.YtcalibhfgdncaaaGreatDoor
open Go.Dc Go.RowKit
attribute [local irreducible] CW OW AW AZ Ev
set_option maxHeartbeats 0
set_option maxRecDepth 10000
set_option linter.all false
def Bd(r0:bK)(i0:Int):Option Str:=
 if decide ((r0.w.length:Int)≤i0) then
  (some (⟨[]⟩:Str))
 else
  ((idx r0.w i0).bind fun x2=>
  some x2)
theorem GJ(S:aW)(w:World)(bL:Nat)(r0:bK)(ak:ah.R bK)(i0:Int)(y:Str)(hM:Bd r0 i0=some y)(hS:sB S w)(aoV:S bL∧w.heap[bL]?=some (.cells (ni r0 ak).toArray 104 (0,0)))(oL:ah.ok S w ak r0):
   Calls Tryz.prog 103 #[vP bL,vI i0] w (bM w (.string y.ba)):=by
 refine bF (args:=[_,_]) Tryz.func103 rfl ((pre_nil hS).start |>.mJ aoV|>.je oL.1|>.jZ oL.2.1|>.bG oL.2.2) rfl ?_;unfold Bd at hM;refine aJ ?_;refine au fun K2 hK2=>?_;refine go ?_;refine oe (o7 (b:=bL)) ?_;refine oe jq ?_;refine oe IE ?_;refine oc hM (fun hc1 hM=>?_) (fun hc1 hM=>?_)
 ·refine aJ ?_;exact aF (aZ hM)
 refine cs hK2 ?_;refine go ?_;refine oe (o7 (b:=bL)) ?_;refine om ?_;refine zP 1 (kG r0.w ak.2.2) hM fun x2 hx3 hM=>?_;refine aN ?_;exact aF (aZ hM)
def yX(r0:bK)(ok0:Bool):Option Int:=
 if (!ok0) then
  (some 2)
 else
  (some r0.e)
theorem Eh(S:aW)(w:World)(bL:Nat)(r0:bK)(ak:ah.R bK)(ok0:Bool)(y:Int)(hM:yX r0 ok0=some y)(hP:Pre S [own bL 104 (ni r0 ak),aj 71 ak.2.1.1 r0.p.aP,aj 90 ak.2.1.2.1 r0.p.Routes,bP (fun _=>True) 56 58 ak.2.1.2.2.1 r0.p.Lines,aj 79 ak.2.1.2.2.2.1 r0.p.Changes,aj 94 ak.2.1.2.2.2.2.1 r0.p.Turns,aj 84 ak.2.1.2.2.2.2.2.1 r0.p.bB,aj 86 ak.2.1.2.2.2.2.2.2 r0.p.bA,aj 9 ak.2.2 r0.w] w)(qG:ah.ok (α:=List Str) S w ak.1.1 r0.l.aT)(qH:ah.ok (α:=List Str) S w ak.1.2.1 r0.l.bE)(qI:ah.ok (α:=List Section) S w ak.1.2.2.1 r0.l.Sections)(qJ:ah.ok (α:=List Link) S w ak.1.2.2.2 r0.l.Links):
   Calls Tryz.prog 102 #[vP bL,.bool ok0] w (Post (β:=Unit) S [own bL 104 (ni r0 ak),aj 71 ak.2.1.1 r0.p.aP,aj 90 ak.2.1.2.1 r0.p.Routes,bP (fun _=>True) 56 58 ak.2.1.2.2.1 r0.p.Lines,aj 79 ak.2.1.2.2.2.1 r0.p.Changes,aj 94 ak.2.1.2.2.2.2.1 r0.p.Turns,aj 84 ak.2.1.2.2.2.2.2.1 r0.p.bB,aj 86 ak.2.1.2.2.2.2.2.2 r0.p.bA,aj 9 ak.2.2 r0.w] (fun g=> .tuple #[]) (fun g=>[own bL 104 [sL ak.1.1 r0.l.aT,sL ak.1.2.1 r0.l.bE,sL ak.1.2.2.1 r0.l.Sections,sL ak.1.2.2.2 r0.l.Links,vI r0.p.bJ,sL ak.2.1.1 r0.p.aP,sL ak.2.1.2.1 r0.p.Routes,sL ak.2.1.2.2.1 r0.p.Lines,sL ak.2.1.2.2.2.1 r0.p.Changes,sL ak.2.1.2.2.2.2.1 r0.p.Turns,sL ak.2.1.2.2.2.2.2.1 r0.p.bB,sL ak.2.1.2.2.2.2.2.2 r0.p.bA,.bool r0.period,sL ak.2.2 r0.w,vI y],aj 71 ak.2.1.1 r0.p.aP,aj 90 ak.2.1.2.1 r0.p.Routes,bP (fun _=>True) 56 58 ak.2.1.2.2.1 r0.p.Lines,aj 79 ak.2.1.2.2.2.1 r0.p.Changes,aj 94 ak.2.1.2.2.2.2.1 r0.p.Turns,aj 84 ak.2.1.2.2.2.2.2.1 r0.p.bB,aj 86 ak.2.1.2.2.2.2.2.2 r0.p.bA,aj 9 ak.2.2 r0.w]) w):=by
 refine bF (args:=[_,_]) Tryz.func102 rfl (hP.start |>.bG qG|>.bG qH|>.bG qI|>.bG qJ) rfl ?_;unfold yX at hM;refine aR ?_;refine oe iC ?_;refine oc hM (fun hc1 hM=>?_) (fun hc1 hM=>?_)
 ·refine bg ?_;refine go ?_;refine kY ?_;obtain rfl:=some_inj hM;refine bq (DW rfl (fun w hm=>bR () hm rfl))
 obtain rfl:=some_inj hM;refine gG (DW rfl (fun w hm=>bR () hm rfl))
def UO(i0:Int):Int→Option (Int×Int):=fun vv=>
 some (i0,vv)
def Jm(r0:bK)(i0:Int):Option (Int×Int):=
 if (decide (i0<0)&&decide (r0.e=0)) then
  (UO i0 3)
 else
  (UO i0 r0.e)
theorem Zw(S:aW)(w:World)(bL:Nat)(r0:bK)(ak:ah.R bK)(i0:Int)(y:Int×Int)(hM:Jm r0 i0=some y)(hP:Pre S [own bL 104 (ni r0 ak),aj 71 ak.2.1.1 r0.p.aP,aj 90 ak.2.1.2.1 r0.p.Routes,bP (fun _=>True) 56 58 ak.2.1.2.2.1 r0.p.Lines,aj 79 ak.2.1.2.2.2.1 r0.p.Changes,aj 94 ak.2.1.2.2.2.2.1 r0.p.Turns,aj 84 ak.2.1.2.2.2.2.2.1 r0.p.bB,aj 86 ak.2.1.2.2.2.2.2.2 r0.p.bA,aj 9 ak.2.2 r0.w] w)(qG:ah.ok (α:=List Str) S w ak.1.1 r0.l.aT)(qH:ah.ok (α:=List Str) S w ak.1.2.1 r0.l.bE)(qI:ah.ok (α:=List Section) S w ak.1.2.2.1 r0.l.Sections)(qJ:ah.ok (α:=List Link) S w ak.1.2.2.2 r0.l.Links):
   Calls Tryz.prog 158 #[vP bL,vI i0] w (Post (β:=Unit) S [own bL 104 (ni r0 ak),aj 71 ak.2.1.1 r0.p.aP,aj 90 ak.2.1.2.1 r0.p.Routes,bP (fun _=>True) 56 58 ak.2.1.2.2.1 r0.p.Lines,aj 79 ak.2.1.2.2.2.1 r0.p.Changes,aj 94 ak.2.1.2.2.2.2.1 r0.p.Turns,aj 84 ak.2.1.2.2.2.2.2.1 r0.p.bB,aj 86 ak.2.1.2.2.2.2.2.2 r0.p.bA,aj 9 ak.2.2 r0.w] (fun g=>vI y.1) (fun g=>[own bL 104 [sL ak.1.1 r0.l.aT,sL ak.1.2.1 r0.l.bE,sL ak.1.2.2.1 r0.l.Sections,sL ak.1.2.2.2 r0.l.Links,vI r0.p.bJ,sL ak.2.1.1 r0.p.aP,sL ak.2.1.2.1 r0.p.Routes,sL ak.2.1.2.2.1 r0.p.Lines,sL ak.2.1.2.2.2.1 r0.p.Changes,sL ak.2.1.2.2.2.2.1 r0.p.Turns,sL ak.2.1.2.2.2.2.2.1 r0.p.bB,sL ak.2.1.2.2.2.2.2.2 r0.p.bA,.bool r0.period,sL ak.2.2 r0.w,vI y.2],aj 71 ak.2.1.1 r0.p.aP,aj 90 ak.2.1.2.1 r0.p.Routes,bP (fun _=>True) 56 58 ak.2.1.2.2.1 r0.p.Lines,aj 79 ak.2.1.2.2.2.1 r0.p.Changes,aj 94 ak.2.1.2.2.2.2.1 r0.p.Turns,aj 84 ak.2.1.2.2.2.2.2.1 r0.p.bB,aj 86 ak.2.1.2.2.2.2.2.2 r0.p.bA,aj 9 ak.2.2 r0.w]) w):=by
 refine bF (args:=[_,_]) Tryz.func158 rfl (hP.start |>.bG qG|>.bG qH|>.bG qI|>.bG qJ) rfl ?_;unfold Jm at hM;refine aJ ?_;refine jl y (k:=UO i0) [1] (fun vv=>[]) [4] (fun vv=>[own bL 104 [sL ak.1.1 r0.l.aT,sL ak.1.2.1 r0.l.bE,sL ak.1.2.2.1 r0.l.Sections,sL ak.1.2.2.2 r0.l.Links,vI r0.p.bJ,sL ak.2.1.1 r0.p.aP,sL ak.2.1.2.1 r0.p.Routes,sL ak.2.1.2.2.1 r0.p.Lines,sL ak.2.1.2.2.2.1 r0.p.Changes,sL ak.2.1.2.2.2.2.1 r0.p.Turns,sL ak.2.1.2.2.2.2.2.1 r0.p.bB,sL ak.2.1.2.2.2.2.2.2 r0.p.bA,.bool r0.period,sL ak.2.2 r0.w,vI vv]]) ?_ ?_
 ·intro rM dK;refine go ?_;refine co hM (fun hc1 hM=>?_) (fun hc1 hM=>?_)
  · refine bg ?_;refine go ?_;refine kY ?_;refine bq (dK hM sS rI)
  refine gG (dK hM sS rI)
 clear hM;rintro vv hM;dsimp only[UO,cA,nA] at hM ⊢;refine aR ?_;refine aN ?_;obtain rfl:=some_inj hM;refine aF (eG (fun w hm=>bR () hm rfl))
def Zy(s0:Section)(p0:bK)(p2:Int):Option Bool:=
 (Bd p0 p2).bind fun y2=>
 some (decide (s0.Name=y2))
theorem aua(S:aW)(w:World)(s0:Section)(zH:Nat)(jd:Nat)(p0:bK)(av:ah.R bK)(zG:Nat)(p2:Int)(y:Bool)(hM:Zy s0 p0 p2=some y)(hS:sB S w)(SC:S zH∧w.heap[zH]?=some (.cells [vP jd].toArray 102 (0,0)))(DF:S jd∧w.heap[jd]?=some (.cells (ni p0 av).toArray 104 (0,0)))(eF:ah.ok S w av p0)(Sy:S zG∧w.heap[zG]?=some (.cells [vI p2].toArray 3 (0,0))):
  Calls Tryz.prog 188 #[.agg (Xz s0),vP zH,vP zG] w (bM w (.bool y)):=by
 refine bF (args:=[_,_,_]) Tryz.func188 rfl ((pre_nil hS).start |>.mJ SC|>.mJ DF|>.je eF.1|>.jZ eF.2.1|>.bG eF.2.2|>.mJ Sy) rfl ?_;unfold Zy at hM;refine sr ?_;refine oB (Eb s0) fun b1=>?_;refine aN ?_;refine au fun K2 hK2=>?_;refine dS _ (List.Sublist.refl _) ?_;refine fa 0 0 ?_;refine ay 2 rfl (o7 (b:=zH)) ?_;refine ay 3 rfl (o7 (b:=zG)) ?_;obtain⟨y2,hy3,hM⟩:=bind_some hM;refine bT 4 rfl (sV (fun hs=>GJ _ _ jd p0 av p2 y2 hy3 (aM hs) (uM hA hs) ⟨⟨(kM hs),(kM hs),(kM hs),(kM hs)⟩,⟨(kM hs),(kM hs),(kM hs),(kM hs),(kM hs),(kM hs),(kM hs)⟩,(kM hs)⟩) ⟨rI,?_⟩);refine ay 5 rfl xI ?_;refine ay 6 rfl eX ?_;refine bS (hK2 _ _ ?_);exact aF (aZ hM)
def akO:Unit→Option Int:=fun _=>
 some (-1)
def aaM(s0:List Section)(fM:bK)(qE:Int)(aK:Nat→Option Int):Nat→Option Int:=fun fU=>
 if decide ((fU:Int)<(s0.length:Int)) then
  ((idx s0 (fU:Int)).bind fun x3=>
  (Zy x3 fM qE).bind fun y5=>
  if y5 then
   (some (fU:Int))
  else
   (aK (fU+1)))
 else
  (akO ())
def aaN(s0:List Section)(fM:bK)(qE:Int):Option Int:=
 iter (aaM s0 fM qE) FUEL 0
theorem awk(S:aW)(w:World)(s0:List Section)(dh:ah.R (List Section))(vV:Nat)(iY:Nat)(fM:bK)(uL:ah.R bK)(vT:Nat)(qE:Int)(y:Int)(hM:aaN s0 fM qE=some y)(hS:sB S w)(uo:ah.ok S w dh s0)(SB:S vV∧w.heap[vV]?=some (.cells [vP iY].toArray 102 (0,0)))(wu:S iY∧w.heap[iY]?=some (.cells (ni fM uL).toArray 104 (0,0)))(yL:ah.ok S w uL fM)(Sw:S vT∧w.heap[vT]?=some (.cells [vI qE].toArray 3 (0,0))):
   Calls Tryz.prog 187 #[sL dh s0,.func (.func 188) #[] #[vP vV,vP vT]] w (bM w (vI y)):=by
 refine bF (args:=[_,_]) Tryz.func187 rfl ((pre_nil hS).start |>.bG uo|>.mJ SB|>.mJ wu|>.je yL.1|>.jZ yL.2.1|>.bG yL.2.2|>.mJ Sw) rfl ?_;unfold aaN at hM;refine aJ ?_;refine au fun K2 hK2=>?_;refine aR ?_;refine kK (fun w hm=>Kn.len (kG s0 dh) hm) fun hl1=>?_;refine go ?_;refine lk hM [0,1,7] (fun fU=>[(8,eI (fU:Int))]) [] (fun fU=>[]) ?_;clear hM;rintro aK fU hM eO hL1;dsimp only[aaM,cA,nA] at hM ⊢;refine sr ?_;refine oe gq ?_;refine on ?_;refine au fun K5 dx=>?_;refine co hM (fun hc2 hM=>?_) (fun hc2 hM=>?_)
 ·have Le:=of_decide_eq_true hc2;refine cs dx ?_;refine au fun K6 dG=>?_;refine go ?_;refine ixs 5 5 (fun x3=>(Eb x3)) (kG s0 dh) hM fun x3 hx4 hM=>?_;obtain⟨y5,jW,hM⟩:=bind_some hM;refine bf (Nc (vs:=[.agg (Xz x3)]) (cap:=[vP vV,vP vT]) (fun w hm=>let ⟨S,hs⟩:=hm;aua _ w x3 vV iY fM uL vT qE y5 jW (aM hs) (uM hA hs) (uM hA hs) ⟨⟨(kM hs),(kM hs),(kM hs),(kM hs)⟩,⟨(kM hs),(kM hs),(kM hs),(kM hs),(kM hs),(kM hs),(kM hs)⟩,(kM hs)⟩ (uM hA hs)) ?_);refine oc hM (fun jr hM=>?_) (fun jr hM=>?_)
  · refine aR ?_;refine aN ?_;exact aF (aZ hM)
  refine cs dG ?_;refine bg ?_;refine oe (dP (hr:=fun _=>by unfold gN;omega)) ?_;refine om ?_;refine bq (hL1 hM sS rI)
 refine cx hK2 ?_;dsimp only[akO] at hM;refine aJ ?_;exact aF (aZ hM)
def UQ(r0:bK)(i0:Int):Option (Int×Int):=
 (aaN r0.l.Sections r0 i0).bind fun y3=>
 (Jm r0 y3).bind fun y5=>
 some (y5.1,y5.2)
theorem aub(S:aW)(w:World)(bL:Nat)(r0:bK)(ak:ah.R bK)(i0:Int)(y:Int×Int)(hM:UQ r0 i0=some y)(hP:Pre S [own bL 104 (ni r0 ak),aj 71 ak.2.1.1 r0.p.aP,aj 90 ak.2.1.2.1 r0.p.Routes,bP (fun _=>True) 56 58 ak.2.1.2.2.1 r0.p.Lines,aj 79 ak.2.1.2.2.2.1 r0.p.Changes,aj 94 ak.2.1.2.2.2.2.1 r0.p.Turns,aj 84 ak.2.1.2.2.2.2.2.1 r0.p.bB,aj 86 ak.2.1.2.2.2.2.2.2 r0.p.bA,aj 9 ak.2.2 r0.w] w)(qG:ah.ok (α:=List Str) S w ak.1.1 r0.l.aT)(qH:ah.ok (α:=List Str) S w ak.1.2.1 r0.l.bE)(qI:ah.ok (α:=List Section) S w ak.1.2.2.1 r0.l.Sections)(qJ:ah.ok (α:=List Link) S w ak.1.2.2.2 r0.l.Links):
  Calls Tryz.prog 157 #[vP bL,vI i0] w (Post (β:=Unit) S [own bL 104 (ni r0 ak),aj 71 ak.2.1.1 r0.p.aP,aj 90 ak.2.1.2.1 r0.p.Routes,bP (fun _=>True) 56 58 ak.2.1.2.2.1 r0.p.Lines,aj 79 ak.2.1.2.2.2.1 r0.p.Changes,aj 94 ak.2.1.2.2.2.2.1 r0.p.Turns,aj 84 ak.2.1.2.2.2.2.2.1 r0.p.bB,aj 86 ak.2.1.2.2.2.2.2.2 r0.p.bA,aj 9 ak.2.2 r0.w] (fun g=>vI y.1) (fun g=>[own bL 104 [sL ak.1.1 r0.l.aT,sL ak.1.2.1 r0.l.bE,sL ak.1.2.2.1 r0.l.Sections,sL ak.1.2.2.2 r0.l.Links,vI r0.p.bJ,sL ak.2.1.1 r0.p.aP,sL ak.2.1.2.1 r0.p.Routes,sL ak.2.1.2.2.1 r0.p.Lines,sL ak.2.1.2.2.2.1 r0.p.Changes,sL ak.2.1.2.2.2.2.1 r0.p.Turns,sL ak.2.1.2.2.2.2.2.1 r0.p.bB,sL ak.2.1.2.2.2.2.2.2 r0.p.bA,.bool r0.period,sL ak.2.2 r0.w,vI y.2],aj 71 ak.2.1.1 r0.p.aP,aj 90 ak.2.1.2.1 r0.p.Routes,bP (fun _=>True) 56 58 ak.2.1.2.2.1 r0.p.Lines,aj 79 ak.2.1.2.2.2.1 r0.p.Changes,aj 94 ak.2.1.2.2.2.2.1 r0.p.Turns,aj 84 ak.2.1.2.2.2.2.2.1 r0.p.bB,aj 86 ak.2.1.2.2.2.2.2.2 r0.p.bA,aj 9 ak.2.2 r0.w]) w):=by
 refine bF (args:=[_,_]) Tryz.func157 rfl (hP.start |>.bG qG|>.bG qH|>.bG qI|>.bG qJ) rfl ?_;unfold UQ at hM;refine sr ?_;refine bf (G8 (h1:=rfl) (k:=fun b1=>?_));refine bf (G8 (h1:=rfl) (k:=fun b2=>?_));refine aN ?_;refine au fun K2 hK2=>?_;refine RS [vJ bL [(2,sL ak.1.2.2.1 r0.l.Sections)],own b2 3 [vI i0],own b1 102 [vP bL],iL r0.l.Links ak.1.2.2.2,iL r0.l.Sections ak.1.2.2.1,iL r0.l.bE ak.1.2.1,iL r0.l.aT ak.1.1,aj 71 ak.2.1.1 r0.p.aP,aj 90 ak.2.1.2.1 r0.p.Routes,bP (fun _=>True) 56 58 ak.2.1.2.2.1 r0.p.Lines,aj 79 ak.2.1.2.2.2.1 r0.p.Changes,aj 94 ak.2.1.2.2.2.2.1 r0.p.Turns,aj 84 ak.2.1.2.2.2.2.2.1 r0.p.bB,aj 86 ak.2.1.2.2.2.2.2.2 r0.p.bA,aj 9 ak.2.2 r0.w] (pI) ?_;refine ay 0 rfl gZ ?_;refine ay 1 rfl gZ ?_;refine ay 2 rfl dF ?_;refine ay 3 rfl (aY 0) ?_;refine ay 4 rfl (aY 2) ?_;refine ay 5 rfl (Cg (b:=bL) (o:=2) (ps:=[(2,sL ak.1.2.2.1 r0.l.Sections)]) hA (by repeat (first|exact List.Mem.head _|apply List.Mem.tail))) ?_;refine ay 6 rfl KT ?_;obtain⟨y3,hy4,hM⟩:=bind_some hM;refine bT 7 rfl (jh (fun w hm=>let ⟨S,hs⟩:=hm;awk _ w r0.l.Sections ak.1.2.2.1 b1 bL r0 ak b2 i0 y3 hy4 (aM hs) (kM hs) (lQ hA hs) (lQ hA hs) ⟨⟨(kM hs),(kM hs),(kM hs),(kM hs)⟩,⟨(kT hs),(kT hs),(Kn.lend (Kn.bP (e:=56) (e2:=58) (r:=ak.2.1.2.2.1) hA) hs),(kT hs),(kT hs),(kT hs),(kT hs)⟩,(kT hs)⟩ (lQ hA hs)) ⟨pI,?_⟩);obtain⟨y5,jW,hM⟩:=bind_some hM;refine bT 8 rfl (eH sA (fun S w hs hP=>Zw _ w bL r0 ak y3 y5 jW hP (kI hs) (kI hs) (kI hs) (kI hs)) (fun r7=>⟨pI,?_⟩));dsimp only[cA,nA];refine ay 9 rfl eX ?_;refine bS (hK2 _ _ ?_);obtain rfl:=some_inj hM;refine aF (eG (fun w hm=>bR () hm rfl))
def Zz(s0:aQ)(p0:bK)(p2:Int):Option Bool:=
 (Bd p0 p2).bind fun y2=>
 some (decide (s0.Name=y2))
theorem auc(S:aW)(w:World)(s0:aQ)(zH:Nat)(jd:Nat)(p0:bK)(av:ah.R bK)(zG:Nat)(p2:Int)(y:Bool)(hM:Zz s0 p0 p2=some y)(hS:sB S w)(SC:S zH∧w.heap[zH]?=some (.cells [vP jd].toArray 102 (0,0)))(DF:S jd∧w.heap[jd]?=some (.cells (ni p0 av).toArray 104 (0,0)))(eF:ah.ok S w av p0)(Sy:S zG∧w.heap[zG]?=some (.cells [vI p2].toArray 3 (0,0))):
  Calls Tryz.prog 159 #[.agg (FV s0),vP zH,vP zG] w (bM w (.bool y)):=by
 refine bF (args:=[_,_,_]) Tryz.func159 rfl ((pre_nil hS).start |>.mJ SC|>.mJ DF|>.je eF.1|>.jZ eF.2.1|>.bG eF.2.2|>.mJ Sy) rfl ?_;unfold Zz at hM;refine sr ?_;refine oB (rD s0) fun b1=>?_;refine aN ?_;refine au fun K2 hK2=>?_;refine dS _ (List.Sublist.refl _) ?_;refine fa 0 0 ?_;refine ay 2 rfl (o7 (b:=zH)) ?_;refine ay 3 rfl (o7 (b:=zG)) ?_;obtain⟨y2,hy3,hM⟩:=bind_some hM;refine bT 4 rfl (sV (fun hs=>GJ _ _ jd p0 av p2 y2 hy3 (aM hs) (uM hA hs) ⟨⟨(kM hs),(kM hs),(kM hs),(kM hs)⟩,⟨(kM hs),(kM hs),(kM hs),(kM hs),(kM hs),(kM hs),(kM hs)⟩,(kM hs)⟩) ⟨rI,?_⟩);refine ay 5 rfl xI ?_;refine ay 6 rfl eX ?_;refine bS (hK2 _ _ ?_);exact aF (aZ hM)
def akQ:Unit→Option Int:=fun _=>
 some (-1)
def aaQ(s0:List aQ)(fM:bK)(qE:Int)(aK:Nat→Option Int):Nat→Option Int:=fun fU=>
 if decide ((fU:Int)<(s0.length:Int)) then
  ((idx s0 (fU:Int)).bind fun x3=>
  (Zz x3 fM qE).bind fun y5=>
  if y5 then
   (some (fU:Int))
  else
   (aK (fU+1)))
 else
  (akQ ())
def aaR(s0:List aQ)(fM:bK)(qE:Int):Option Int:=
 iter (aaQ s0 fM qE) FUEL 0
theorem awl(S:aW)(w:World)(s0:List aQ)(dh:ah.R (List aQ))(vV:Nat)(iY:Nat)(fM:bK)(uL:ah.R bK)(vT:Nat)(qE:Int)(y:Int)(hM:aaR s0 fM qE=some y)(hS:sB S w)(uo:ah.ok S w dh s0)(SB:S vV∧w.heap[vV]?=some (.cells [vP iY].toArray 102 (0,0)))(wu:S iY∧w.heap[iY]?=some (.cells (ni fM uL).toArray 104 (0,0)))(yL:ah.ok S w uL fM)(Sw:S vT∧w.heap[vT]?=some (.cells [vI qE].toArray 3 (0,0))):
   Calls Tryz.prog 136 #[sL dh s0,.func (.func 159) #[] #[vP vV,vP vT]] w (bM w (vI y)):=by
 refine bF (args:=[_,_]) Tryz.func136 rfl ((pre_nil hS).start |>.bG uo|>.mJ SB|>.mJ wu|>.je yL.1|>.jZ yL.2.1|>.bG yL.2.2|>.mJ Sw) rfl ?_;unfold aaR at hM;refine aJ ?_;refine au fun K2 hK2=>?_;refine aR ?_;refine kK (fun w hm=>Kn.len (kG s0 dh) hm) fun hl1=>?_;refine go ?_;refine lk hM [0,1,7] (fun fU=>[(8,eI (fU:Int))]) [] (fun fU=>[]) ?_;clear hM;rintro aK fU hM eO hL1;dsimp only[aaQ,cA,nA] at hM ⊢;refine sr ?_;refine oe gq ?_;refine on ?_;refine au fun K5 dx=>?_;refine co hM (fun hc2 hM=>?_) (fun hc2 hM=>?_)
 ·have Le:=of_decide_eq_true hc2;refine cs dx ?_;refine au fun K6 dG=>?_;refine go ?_;refine ixs 5 5 (fun x3=>(rD x3)) (kG s0 dh) hM fun x3 hx4 hM=>?_;obtain⟨y5,jW,hM⟩:=bind_some hM;refine bf (Nc (vs:=[.agg (FV x3)]) (cap:=[vP vV,vP vT]) (fun w hm=>let ⟨S,hs⟩:=hm;auc _ w x3 vV iY fM uL vT qE y5 jW (aM hs) (uM hA hs) (uM hA hs) ⟨⟨(kM hs),(kM hs),(kM hs),(kM hs)⟩,⟨(kM hs),(kM hs),(kM hs),(kM hs),(kM hs),(kM hs),(kM hs)⟩,(kM hs)⟩ (uM hA hs)) ?_);refine oc hM (fun jr hM=>?_) (fun jr hM=>?_)
  · refine aR ?_;refine aN ?_;exact aF (aZ hM)
  refine cs dG ?_;refine bg ?_;refine oe (dP (hr:=fun _=>by unfold gN;omega)) ?_;refine om ?_;refine bq (hL1 hM sS rI)
 refine cx hK2 ?_;dsimp only[akQ] at hM;refine aJ ?_;exact aF (aZ hM)
def UR(r0:bK)(i0:Int):Option (Int×Int):=
 (aaR r0.p.aP r0 i0).bind fun y3=>
 (Jm r0 y3).bind fun y5=>
 some (y5.1,y5.2)
theorem aud(S:aW)(w:World)(bL:Nat)(r0:bK)(ak:ah.R bK)(i0:Int)(y:Int×Int)(hM:UR r0 i0=some y)(hP:Pre S [own bL 104 (ni r0 ak),aj 71 ak.2.1.1 r0.p.aP,aj 90 ak.2.1.2.1 r0.p.Routes,bP (fun _=>True) 56 58 ak.2.1.2.2.1 r0.p.Lines,aj 79 ak.2.1.2.2.2.1 r0.p.Changes,aj 94 ak.2.1.2.2.2.2.1 r0.p.Turns,aj 84 ak.2.1.2.2.2.2.2.1 r0.p.bB,aj 86 ak.2.1.2.2.2.2.2.2 r0.p.bA,aj 9 ak.2.2 r0.w] w)(qG:ah.ok (α:=List Str) S w ak.1.1 r0.l.aT)(qH:ah.ok (α:=List Str) S w ak.1.2.1 r0.l.bE)(qI:ah.ok (α:=List Section) S w ak.1.2.2.1 r0.l.Sections)(qJ:ah.ok (α:=List Link) S w ak.1.2.2.2 r0.l.Links):
  Calls Tryz.prog 106 #[vP bL,vI i0] w (Post (β:=Unit) S [own bL 104 (ni r0 ak),aj 71 ak.2.1.1 r0.p.aP,aj 90 ak.2.1.2.1 r0.p.Routes,bP (fun _=>True) 56 58 ak.2.1.2.2.1 r0.p.Lines,aj 79 ak.2.1.2.2.2.1 r0.p.Changes,aj 94 ak.2.1.2.2.2.2.1 r0.p.Turns,aj 84 ak.2.1.2.2.2.2.2.1 r0.p.bB,aj 86 ak.2.1.2.2.2.2.2.2 r0.p.bA,aj 9 ak.2.2 r0.w] (fun g=>vI y.1) (fun g=>[own bL 104 [sL ak.1.1 r0.l.aT,sL ak.1.2.1 r0.l.bE,sL ak.1.2.2.1 r0.l.Sections,sL ak.1.2.2.2 r0.l.Links,vI r0.p.bJ,sL ak.2.1.1 r0.p.aP,sL ak.2.1.2.1 r0.p.Routes,sL ak.2.1.2.2.1 r0.p.Lines,sL ak.2.1.2.2.2.1 r0.p.Changes,sL ak.2.1.2.2.2.2.1 r0.p.Turns,sL ak.2.1.2.2.2.2.2.1 r0.p.bB,sL ak.2.1.2.2.2.2.2.2 r0.p.bA,.bool r0.period,sL ak.2.2 r0.w,vI y.2],aj 71 ak.2.1.1 r0.p.aP,aj 90 ak.2.1.2.1 r0.p.Routes,bP (fun _=>True) 56 58 ak.2.1.2.2.1 r0.p.Lines,aj 79 ak.2.1.2.2.2.1 r0.p.Changes,aj 94 ak.2.1.2.2.2.2.1 r0.p.Turns,aj 84 ak.2.1.2.2.2.2.2.1 r0.p.bB,aj 86 ak.2.1.2.2.2.2.2.2 r0.p.bA,aj 9 ak.2.2 r0.w]) w):=by
 refine bF (args:=[_,_]) Tryz.func106 rfl (hP.start |>.bG qG|>.bG qH|>.bG qI|>.bG qJ) rfl ?_;unfold UR at hM;refine sr ?_;refine bf (G8 (h1:=rfl) (k:=fun b1=>?_));refine bf (G8 (h1:=rfl) (k:=fun b2=>?_));refine aN ?_;refine au fun K2 hK2=>?_;refine RS [vJ bL [(5,sL ak.2.1.1 r0.p.aP)],own b2 3 [vI i0],own b1 102 [vP bL],iL r0.l.Links ak.1.2.2.2,iL r0.l.Sections ak.1.2.2.1,iL r0.l.bE ak.1.2.1,iL r0.l.aT ak.1.1,aj 71 ak.2.1.1 r0.p.aP,aj 90 ak.2.1.2.1 r0.p.Routes,bP (fun _=>True) 56 58 ak.2.1.2.2.1 r0.p.Lines,aj 79 ak.2.1.2.2.2.1 r0.p.Changes,aj 94 ak.2.1.2.2.2.2.1 r0.p.Turns,aj 84 ak.2.1.2.2.2.2.2.1 r0.p.bB,aj 86 ak.2.1.2.2.2.2.2.2 r0.p.bA,aj 9 ak.2.2 r0.w] (pI) ?_;refine ay 0 rfl gZ ?_;refine ay 1 rfl gZ ?_;refine ay 2 rfl dF ?_;refine ay 3 rfl (aY 4) ?_;refine ay 4 rfl (aY 1) ?_;refine ay 5 rfl (Cg (b:=bL) (o:=5) (ps:=[(5,sL ak.2.1.1 r0.p.aP)]) hA (by repeat (first|exact List.Mem.head _|apply List.Mem.tail))) ?_;refine ay 6 rfl KT ?_;obtain⟨y3,hy4,hM⟩:=bind_some hM;refine bT 7 rfl (jh (fun w hm=>let ⟨S,hs⟩:=hm;awl _ w r0.p.aP ak.2.1.1 b1 bL r0 ak b2 i0 y3 hy4 (aM hs) (kT hs) (lQ hA hs) (lQ hA hs) ⟨⟨(kM hs),(kM hs),(kM hs),(kM hs)⟩,⟨(kT hs),(kT hs),(Kn.lend (Kn.bP (e:=56) (e2:=58) (r:=ak.2.1.2.2.1) hA) hs),(kT hs),(kT hs),(kT hs),(kT hs)⟩,(kT hs)⟩ (lQ hA hs)) ⟨pI,?_⟩);obtain⟨y5,jW,hM⟩:=bind_some hM;refine bT 8 rfl (eH sA (fun S w hs hP=>Zw _ w bL r0 ak y3 y5 jW hP (kI hs) (kI hs) (kI hs) (kI hs)) (fun r7=>⟨pI,?_⟩));dsimp only[cA,nA];refine ay 9 rfl eX ?_;refine bS (hK2 _ _ ?_);obtain rfl:=some_inj hM;refine aF (eG (fun w hm=>bR () hm rfl))
def Zx(k0:Line)(p0:bK)(p2:Int):Option Bool:=
 (Bd p0 p2).bind fun y2=>
 some (decide (k0.Name=y2))
theorem at7(S:aW)(w:World)(k0:Line)(MH:ah.R Line)(zH:Nat)(jd:Nat)(p0:bK)(av:ah.R bK)(zG:Nat)(p2:Int)(y:Bool)(hM:Zx k0 p0 p2=some y)(hS:sB S w)(acG:ah.ok S w MH k0)(SC:S zH∧w.heap[zH]?=some (.cells [vP jd].toArray 102 (0,0)))(DF:S jd∧w.heap[jd]?=some (.cells (ni p0 av).toArray 104 (0,0)))(eF:ah.ok S w av p0)(Sy:S zG∧w.heap[zG]?=some (.cells [vI p2].toArray 3 (0,0))):
  Calls Tryz.prog 161 #[.agg (KF k0 MH),vP zH,vP zG] w (bM w (.bool y)):=by
 refine bF (args:=[_,_,_]) Tryz.func161 rfl ((pre_nil hS).start |>.bG acG|>.mJ SC|>.mJ DF|>.je eF.1|>.jZ eF.2.1|>.bG eF.2.2|>.mJ Sy) rfl ?_;unfold Zx at hM;refine sr ?_;refine oB (mH k0 MH) fun b1=>?_;refine aN ?_;refine au fun K2 hK2=>?_;refine dS _ (List.Sublist.refl _) ?_;refine ay 0 rfl (aY 0) ?_;refine ay 1 rfl gZ ?_;refine ay 2 rfl (o7 (b:=zH)) ?_;refine ay 3 rfl (o7 (b:=zG)) ?_;obtain⟨y2,hy3,hM⟩:=bind_some hM;refine bT 4 rfl (sV (fun hs=>GJ _ _ jd p0 av p2 y2 hy3 (aM hs) (uM hA hs) ⟨⟨(kM hs),(kM hs),(kM hs),(kM hs)⟩,⟨(kM hs),(kM hs),(kM hs),(kM hs),(kM hs),(kM hs),(kM hs)⟩,(kM hs)⟩) ⟨rI,?_⟩);refine ay 5 rfl xI ?_;refine ay 6 rfl eX ?_;refine bS (hK2 _ _ ?_);exact aF (aZ hM)
def akN:Unit→Option Int:=fun _=>
 some (-1)
def aaK(s0:List Line)(fM:bK)(qE:Int)(aK:Nat→Option Int):Nat→Option Int:=fun fU=>
 if decide ((fU:Int)<(s0.length:Int)) then
  ((idx s0 (fU:Int)).bind fun x3=>
  (Zx x3 fM qE).bind fun y5=>
  if y5 then
   (some (fU:Int))
  else
   (aK (fU+1)))
 else
  (akN ())
def aaL(s0:List Line)(fM:bK)(qE:Int):Option Int:=
 iter (aaK s0 fM qE) FUEL 0
theorem awi(S:aW)(w:World)(s0:List Line)(dh:ah.R (List Line))(vV:Nat)(iY:Nat)(fM:bK)(uL:ah.R bK)(vT:Nat)(qE:Int)(y:Int)(hM:aaL s0 fM qE=some y)(hS:sB S w)(uo:ah.ok S w dh s0)(SB:S vV∧w.heap[vV]?=some (.cells [vP iY].toArray 102 (0,0)))(wu:S iY∧w.heap[iY]?=some (.cells (ni fM uL).toArray 104 (0,0)))(yL:ah.ok S w uL fM)(Sw:S vT∧w.heap[vT]?=some (.cells [vI qE].toArray 3 (0,0))):
   Calls Tryz.prog 138 #[sL dh s0,.func (.func 161) #[] #[vP vV,vP vT]] w (bM w (vI y)):=by
 refine bF (args:=[_,_]) Tryz.func138 rfl ((pre_nil hS).start |>.bG uo|>.mJ SB|>.mJ wu|>.je yL.1|>.jZ yL.2.1|>.bG yL.2.2|>.mJ Sw) rfl ?_;unfold aaL at hM;refine aJ ?_;refine au fun K2 hK2=>?_;refine aR ?_;refine kK (fun w hm=>Kn.len (kG s0 dh) hm) fun hl1=>?_;refine go ?_;refine lk hM [0,1,7] (fun fU=>[(8,eI (fU:Int))]) [] (fun fU=>[]) ?_;clear hM;rintro aK fU hM eO hL1;dsimp only[aaK,cA,nA] at hM ⊢;refine sr ?_;refine oe gq ?_;refine on ?_;refine au fun K5 dx=>?_;refine co hM (fun hc2 hM=>?_) (fun hc2 hM=>?_)
 ·have Le:=of_decide_eq_true hc2;refine cs dx ?_;refine au fun K6 dG=>?_;refine go ?_;refine ixs 4 4 (fun x3=>(mH x3 (dh.es (fU:Int).toNat))) (kG s0 dh) hM fun x3 hx4 hM=>?_;obtain⟨y5,jW,hM⟩:=bind_some hM;refine bf (Nc (vs:=[.agg (KF x3 (dh.es (fU:Int).toNat))]) (cap:=[vP vV,vP vT]) (fun w hm=>let ⟨S,hs⟩:=hm;at7 _ w x3 (dh.es (fU:Int).toNat) vV iY fM uL vT qE y5 jW (aM hs) (Kn.lend ((Sk.elem (Sk.dw (α:=List Line) (r:=dh) (x:=s0) hA) hx4)).kn hs) (uM hA hs) (uM hA hs) ⟨⟨(kM hs),(kM hs),(kM hs),(kM hs)⟩,⟨(kM hs),(kM hs),(kM hs),(kM hs),(kM hs),(kM hs),(kM hs)⟩,(kM hs)⟩ (uM hA hs)) ?_);refine oc hM (fun jr hM=>?_) (fun jr hM=>?_)
  · refine aR ?_;refine aN ?_;exact aF (aZ hM)
  refine cs dG ?_;refine bg ?_;refine oe (dP (hr:=fun _=>by unfold gN;omega)) ?_;refine om ?_;refine bq (hL1 hM sS rI)
 refine cx hK2 ?_;dsimp only[akN] at hM;refine aJ ?_;exact aF (aZ hM)
def E9(r0:bK)(i0:Int):Option (Int×Int):=
 (aaL r0.p.Lines r0 i0).bind fun y3=>
 (Jm r0 y3).bind fun y5=>
 some (y5.1,y5.2)
theorem Pn(S:aW)(w:World)(bL:Nat)(r0:bK)(ak:ah.R bK)(i0:Int)(y:Int×Int)(hM:E9 r0 i0=some y)(hP:Pre S [own bL 104 (ni r0 ak),aj 71 ak.2.1.1 r0.p.aP,aj 90 ak.2.1.2.1 r0.p.Routes,bP (fun _=>True) 56 58 ak.2.1.2.2.1 r0.p.Lines,aj 79 ak.2.1.2.2.2.1 r0.p.Changes,aj 94 ak.2.1.2.2.2.2.1 r0.p.Turns,aj 84 ak.2.1.2.2.2.2.2.1 r0.p.bB,aj 86 ak.2.1.2.2.2.2.2.2 r0.p.bA,aj 9 ak.2.2 r0.w] w)(qG:ah.ok (α:=List Str) S w ak.1.1 r0.l.aT)(qH:ah.ok (α:=List Str) S w ak.1.2.1 r0.l.bE)(qI:ah.ok (α:=List Section) S w ak.1.2.2.1 r0.l.Sections)(qJ:ah.ok (α:=List Link) S w ak.1.2.2.2 r0.l.Links):
  Calls Tryz.prog 109 #[vP bL,vI i0] w (Post (β:=Unit) S [own bL 104 (ni r0 ak),aj 71 ak.2.1.1 r0.p.aP,aj 90 ak.2.1.2.1 r0.p.Routes,bP (fun _=>True) 56 58 ak.2.1.2.2.1 r0.p.Lines,aj 79 ak.2.1.2.2.2.1 r0.p.Changes,aj 94 ak.2.1.2.2.2.2.1 r0.p.Turns,aj 84 ak.2.1.2.2.2.2.2.1 r0.p.bB,aj 86 ak.2.1.2.2.2.2.2.2 r0.p.bA,aj 9 ak.2.2 r0.w] (fun g=>vI y.1) (fun g=>[own bL 104 [sL ak.1.1 r0.l.aT,sL ak.1.2.1 r0.l.bE,sL ak.1.2.2.1 r0.l.Sections,sL ak.1.2.2.2 r0.l.Links,vI r0.p.bJ,sL ak.2.1.1 r0.p.aP,sL ak.2.1.2.1 r0.p.Routes,sL ak.2.1.2.2.1 r0.p.Lines,sL ak.2.1.2.2.2.1 r0.p.Changes,sL ak.2.1.2.2.2.2.1 r0.p.Turns,sL ak.2.1.2.2.2.2.2.1 r0.p.bB,sL ak.2.1.2.2.2.2.2.2 r0.p.bA,.bool r0.period,sL ak.2.2 r0.w,vI y.2],aj 71 ak.2.1.1 r0.p.aP,aj 90 ak.2.1.2.1 r0.p.Routes,bP (fun _=>True) 56 58 ak.2.1.2.2.1 r0.p.Lines,aj 79 ak.2.1.2.2.2.1 r0.p.Changes,aj 94 ak.2.1.2.2.2.2.1 r0.p.Turns,aj 84 ak.2.1.2.2.2.2.2.1 r0.p.bB,aj 86 ak.2.1.2.2.2.2.2.2 r0.p.bA,aj 9 ak.2.2 r0.w]) w):=by
 refine bF (args:=[_,_]) Tryz.func109 rfl (hP.start |>.bG qG|>.bG qH|>.bG qI|>.bG qJ) rfl ?_;unfold E9 at hM;refine sr ?_;refine bf (G8 (h1:=rfl) (k:=fun b1=>?_));refine bf (G8 (h1:=rfl) (k:=fun b2=>?_));refine aN ?_;refine au fun K2 hK2=>?_;refine RS [vJ bL [(7,sL ak.2.1.2.2.1 r0.p.Lines)],own b2 3 [vI i0],own b1 102 [vP bL],iL r0.l.Links ak.1.2.2.2,iL r0.l.Sections ak.1.2.2.1,iL r0.l.bE ak.1.2.1,iL r0.l.aT ak.1.1,aj 71 ak.2.1.1 r0.p.aP,aj 90 ak.2.1.2.1 r0.p.Routes,bP (fun _=>True) 56 58 ak.2.1.2.2.1 r0.p.Lines,aj 79 ak.2.1.2.2.2.1 r0.p.Changes,aj 94 ak.2.1.2.2.2.2.1 r0.p.Turns,aj 84 ak.2.1.2.2.2.2.2.1 r0.p.bB,aj 86 ak.2.1.2.2.2.2.2.2 r0.p.bA,aj 9 ak.2.2 r0.w] (pI) ?_;refine ay 0 rfl gZ ?_;refine ay 1 rfl gZ ?_;refine ay 2 rfl dF ?_;refine ay 3 rfl (aY 4) ?_;refine ay 4 rfl (aY 3) ?_;refine ay 5 rfl (Cg (b:=bL) (o:=7) (ps:=[(7,sL ak.2.1.2.2.1 r0.p.Lines)]) hA (by repeat (first|exact List.Mem.head _|apply List.Mem.tail))) ?_;refine ay 6 rfl KT ?_;obtain⟨y3,hy4,hM⟩:=bind_some hM;refine bT 7 rfl (jh (fun w hm=>let ⟨S,hs⟩:=hm;awi _ w r0.p.Lines ak.2.1.2.2.1 b1 bL r0 ak b2 i0 y3 hy4 (aM hs) (Kn.lend (Kn.bP (e:=56) (e2:=58) (r:=ak.2.1.2.2.1) hA) hs) (lQ hA hs) (lQ hA hs) ⟨⟨(kM hs),(kM hs),(kM hs),(kM hs)⟩,⟨(kT hs),(kT hs),(Kn.lend (Kn.bP (e:=56) (e2:=58) (r:=ak.2.1.2.2.1) hA) hs),(kT hs),(kT hs),(kT hs),(kT hs)⟩,(kT hs)⟩ (lQ hA hs)) ⟨pI,?_⟩);obtain⟨y5,jW,hM⟩:=bind_some hM;refine bT 8 rfl (eH sA (fun S w hs hP=>Zw _ w bL r0 ak y3 y5 jW hP (kI hs) (kI hs) (kI hs) (kI hs)) (fun r7=>⟨pI,?_⟩));dsimp only[cA,nA];refine ay 9 rfl eX ?_;refine bS (hK2 _ _ ?_);obtain rfl:=some_inj hM;refine aF (eG (fun w hm=>bR () hm rfl))
def akS:Unit→Option Int:=fun _=>
 some (-1)
def aaU(s0:List Str)(v0:Str)(aK:Nat→Option Int):Nat→Option Int:=fun fU=>
 if decide ((fU:Int)<(s0.length:Int)) then
  ((idx s0 (fU:Int)).bind fun x3=>
  if decide (v0=x3) then
   (some (fU:Int))
  else
   (aK (fU+1)))
 else
  (akS ())
def WK(s0:List Str)(v0:Str):Option Int:=
 iter (aaU s0 v0) FUEL 0
theorem awo(S:aW)(w:World)(s0:List Str)(dh:ah.R (List Str))(v0:Str)(y:Int)(hM:WK s0 v0=some y)(hS:sB S w)(uo:ah.ok S w dh s0):
   Calls Tryz.prog 162 #[sL dh s0,.string v0.ba] w (bM w (vI y)):=by
 refine bF (args:=[_,_]) Tryz.func162 rfl ((pre_nil hS).start |>.bG uo) rfl ?_;unfold WK at hM;refine aJ ?_;refine au fun K2 hK2=>?_;refine aR ?_;refine kK (fun w hm=>Kn.len (kG s0 dh) hm) fun hl1=>?_;refine go ?_;refine lk hM [0,1,7] (fun fU=>[(8,eI (fU:Int))]) [] (fun fU=>[]) ?_;clear hM;rintro aK fU hM eO hL1;dsimp only[aaU,cA,nA] at hM ⊢;refine sr ?_;refine oe gq ?_;refine on ?_;refine au fun K5 dx=>?_;refine co hM (fun hc2 hM=>?_) (fun hc2 hM=>?_)
 ·have Le:=of_decide_eq_true hc2;refine cs dx ?_;refine au fun K6 dG=>?_;refine go ?_;refine zP 1 (kG s0 dh) hM fun x3 hx4 hM=>?_;refine oe xI ?_;refine oc hM (fun iH hM=>?_) (fun iH hM=>?_)
  · refine aR ?_;refine aN ?_;exact aF (aZ hM)
  refine cs dG ?_;refine bg ?_;refine oe (dP (hr:=fun _=>by unfold gN;omega)) ?_;refine om ?_;refine bq (hL1 hM sS rI)
 refine cx hK2 ?_;dsimp only[akS] at hM;refine aJ ?_;exact aF (aZ hM)
def Po(r0:bK)(i0:Int):Option (Int×Int):=
 (Bd r0 i0).bind fun y1=>
 (WK r0.l.aT y1).bind fun y3=>
 (Jm r0 y3).bind fun y5=>
 some (y5.1,y5.2)
theorem aiV(S:aW)(w:World)(bL:Nat)(r0:bK)(ak:ah.R bK)(i0:Int)(y:Int×Int)(hM:Po r0 i0=some y)(hP:Pre S [own bL 104 (ni r0 ak),aj 71 ak.2.1.1 r0.p.aP,aj 90 ak.2.1.2.1 r0.p.Routes,bP (fun _=>True) 56 58 ak.2.1.2.2.1 r0.p.Lines,aj 79 ak.2.1.2.2.2.1 r0.p.Changes,aj 94 ak.2.1.2.2.2.2.1 r0.p.Turns,aj 84 ak.2.1.2.2.2.2.2.1 r0.p.bB,aj 86 ak.2.1.2.2.2.2.2.2 r0.p.bA,aj 9 ak.2.2 r0.w] w)(qG:ah.ok (α:=List Str) S w ak.1.1 r0.l.aT)(qH:ah.ok (α:=List Str) S w ak.1.2.1 r0.l.bE)(qI:ah.ok (α:=List Section) S w ak.1.2.2.1 r0.l.Sections)(qJ:ah.ok (α:=List Link) S w ak.1.2.2.2 r0.l.Links):
  Calls Tryz.prog 110 #[vP bL,vI i0] w (Post (β:=Unit) S [own bL 104 (ni r0 ak),aj 71 ak.2.1.1 r0.p.aP,aj 90 ak.2.1.2.1 r0.p.Routes,bP (fun _=>True) 56 58 ak.2.1.2.2.1 r0.p.Lines,aj 79 ak.2.1.2.2.2.1 r0.p.Changes,aj 94 ak.2.1.2.2.2.2.1 r0.p.Turns,aj 84 ak.2.1.2.2.2.2.2.1 r0.p.bB,aj 86 ak.2.1.2.2.2.2.2.2 r0.p.bA,aj 9 ak.2.2 r0.w] (fun g=>vI y.1) (fun g=>[own bL 104 [sL ak.1.1 r0.l.aT,sL ak.1.2.1 r0.l.bE,sL ak.1.2.2.1 r0.l.Sections,sL ak.1.2.2.2 r0.l.Links,vI r0.p.bJ,sL ak.2.1.1 r0.p.aP,sL ak.2.1.2.1 r0.p.Routes,sL ak.2.1.2.2.1 r0.p.Lines,sL ak.2.1.2.2.2.1 r0.p.Changes,sL ak.2.1.2.2.2.2.1 r0.p.Turns,sL ak.2.1.2.2.2.2.2.1 r0.p.bB,sL ak.2.1.2.2.2.2.2.2 r0.p.bA,.bool r0.period,sL ak.2.2 r0.w,vI y.2],aj 71 ak.2.1.1 r0.p.aP,aj 90 ak.2.1.2.1 r0.p.Routes,bP (fun _=>True) 56 58 ak.2.1.2.2.1 r0.p.Lines,aj 79 ak.2.1.2.2.2.1 r0.p.Changes,aj 94 ak.2.1.2.2.2.2.1 r0.p.Turns,aj 84 ak.2.1.2.2.2.2.2.1 r0.p.bB,aj 86 ak.2.1.2.2.2.2.2.2 r0.p.bA,aj 9 ak.2.2 r0.w]) w):=by
 refine bF (args:=[_,_]) Tryz.func110 rfl (hP.start |>.bG qG|>.bG qH|>.bG qI|>.bG qJ) rfl ?_;unfold Po at hM;refine aJ ?_;refine au fun K2 hK2=>?_;refine RS [vJ bL [(0,sL ak.1.1 r0.l.aT)],iL r0.l.Links ak.1.2.2.2,iL r0.l.Sections ak.1.2.2.1,iL r0.l.bE ak.1.2.1,iL r0.l.aT ak.1.1,aj 71 ak.2.1.1 r0.p.aP,aj 90 ak.2.1.2.1 r0.p.Routes,bP (fun _=>True) 56 58 ak.2.1.2.2.1 r0.p.Lines,aj 79 ak.2.1.2.2.2.1 r0.p.Changes,aj 94 ak.2.1.2.2.2.2.1 r0.p.Turns,aj 84 ak.2.1.2.2.2.2.2.1 r0.p.bB,aj 86 ak.2.1.2.2.2.2.2.2 r0.p.bA,aj 9 ak.2.2 r0.w] (pI) ?_;refine am 0 ?_;refine am 1 ?_;refine ay 2 rfl dF ?_;refine ay 3 rfl (aY 0) ?_;refine ay 4 rfl (aY 0) ?_;refine ay 5 rfl (Cg (b:=bL) (o:=0) (ps:=[(0,sL ak.1.1 r0.l.aT)]) hA (by repeat (first|exact List.Mem.head _|apply List.Mem.tail))) ?_;refine am 6 ?_;refine am 7 ?_;obtain⟨y1,hy2,hM⟩:=bind_some hM;refine bT 8 rfl (jh (fun w hm=>let ⟨S,hs⟩:=hm;GJ _ w bL r0 ak i0 y1 hy2 (aM hs) (lQ hA hs) ⟨⟨(kM hs),(kM hs),(kM hs),(kM hs)⟩,⟨(kT hs),(kT hs),(Kn.lend (Kn.bP (e:=56) (e2:=58) (r:=ak.2.1.2.2.1) hA) hs),(kT hs),(kT hs),(kT hs),(kT hs)⟩,(kT hs)⟩) ⟨pI,?_⟩);obtain⟨y3,hy4,hM⟩:=bind_some hM;refine bT 9 rfl (jh (fun w hm=>let ⟨S,hs⟩:=hm;awo _ w r0.l.aT ak.1.1 y1 y3 hy4 (aM hs) (kM hs)) ⟨pI,?_⟩);obtain⟨y5,jW,hM⟩:=bind_some hM;refine bT 10 rfl (eH sA (fun S w hs hP=>Zw _ w bL r0 ak y3 y5 jW hP (kI hs) (kI hs) (kI hs) (kI hs)) (fun r7=>⟨pI,?_⟩));dsimp only[cA,nA];refine ay 11 rfl eX ?_;refine bS (hK2 _ _ ?_);obtain rfl:=some_inj hM;refine aF (eG (fun w hm=>bR () hm rfl))
end Go.Proofs.YtcalibhfgdncaaaGreatDoor

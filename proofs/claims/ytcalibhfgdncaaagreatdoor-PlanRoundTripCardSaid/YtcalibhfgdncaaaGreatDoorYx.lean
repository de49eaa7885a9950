/- Models of functions, and that the code computes them. -/
import Derived.Test.YtcalibhfgdncaaaGreatDoorPs
import Derived.Test.YtcalibhfgdncaaaGreatDoorWk
import Derived.Test.YtcalibhfgdncaaaGreatDoorIto
set_option linter.all false
namespace Go.Proofs.YtcalibhfgdncaaaGreatDoor
open Go.Dc Go.RowKit
set_option maxRecDepth 10000
def Nb(aY:((List Str)×Nat)→Option (List Str))(gq:Nat):(List Str)→Option (List Str):=fun zG=>
 aY (zG,gq+1)
def aaL(iZ:List Str):Unit→Option (List Str):=fun _=>
 some iZ
def RG(nC:List Any)(aY:((List Str)×Nat)→Option (List Str)):((List Str)×Nat)→Option (List Str):=fun (iZ,gq)=>
 if decide ((gq:Int)<(nC.length:Int)) then
  ((idx nC (gq:Int)).bind fun x4=>
  if x4.jJ then
   (bG (decide ((iZ.length+([x4.str]:List Str).length)*16≤140737488355328))<|
   Nb aY gq (iZ++([x4.str]:List Str)))
  else
   (if x4.Jv then
    ((Ip x4.int).bind fun fA=>
    bG (decide ((iZ.length+([fA]:List Str).length)*16≤140737488355328))<|
    Nb aY gq (iZ++([fA]:List Str)))
   else
    (Nb aY gq iZ)))
 else
  (aaL iZ ())
def RH(nC:List Any):Option (List Str):=
 iter (RG nC) FUEL (([]:List Str),0)
theorem anU(S:bB)(w:World)(nC:List Any)(wK:ak.R (List Any))(y:(List Str))(hM:RH nC=some y)(hS:sB S w)(YS:ak.ok S w wK nC)(BX:(gL 3 iC).φ S w):
   Calls Tryz.prog 111 #[sL wK nC] w (Post (β:=(ak.R (List Str))) S [] (fun g=>sL g y) (fun g=>[ah 9 g y]) w):=by
 refine bP (args:=[_]) Tryz.func111 rfl ((pre_nil hS).start |>.bU (α:=List Any) (r:=wK) (x:=nC) YS|>.Aw (c:=gL 3 iC) (fun _ h=>False.elim h) BX) rfl ?_;unfold RH at hM;refine bD ?_;refine bD ?_;refine aG fun K3 hK3=>?_;refine aO ?_;refine iO (fun w hm=>Kn.len (kG nC wK) hm) fun hl1=>?_;refine oe bJ ?_;refine om ?_;refine on ?_;refine bF ?_;refine bQ (fun w hm=>hm.bV (α:=Str) 9 (fun _=>())) ?_;refine lp je hM (fun (iZ,gq) oG=>[(3,eS oG iZ),(8,eS wK nC),(9,eI (nC.length:Int)),(10,eI (gq:Int))]) (fun (iZ,gq) oG=>[ah 9 oG iZ,iL nC wK,gL 3 iC]) sS rI ?_;clear hM;rintro aY ⟨iZ,gq⟩ oG hM gu hL1;dsimp only[RG] at hM ⊢;refine sr ?_;refine oe cO ?_;refine on ?_;refine aG fun K6 bZ=>?_;refine cc rfl hM (fun hc3 hM=>?_) (fun hc3 hM=>?_)
 ·have EJ:=of_decide_eq_true hc3;refine aX (bZ _ _ ?_);clear bZ;refine jn (SR (ak.R Str)) y (k:=Nb aY gq) (fun zG Cx=>[(3,eS Cx zG),(8,eS wK nC),(9,eI (nC.length:Int)),(10,eI (gq:Int))]) (fun zG Cx=>[ah 9 Cx zG,iL nC wK,gL 3 iC]) ?_ ?_
  · intro za hJ2;refine bF ?_;refine sr ?_;obtain⟨x4,hx5,hM⟩:=bind_some hM;refine oe (bI (xs:=nC) 1 (kG nC wK) (iS hx5)) ?_;refine oe (dh (i:=(gq:Int)) (xs:=nC) (y:=x4) 0 (kG nC wK) (fun _=>hx5)) ?_;refine aP ?_;refine aO ?_;refine on ?_;refine bF ?_;refine sr ?_;refine oe (aiF (ti:=3) (v:=x4)) ?_;refine oe (eO (vs:=[.string x4.str.ba,.bool x4.jJ])) ?_;refine oe (eO (vs:=[.string x4.str.ba,.bool x4.jJ])) ?_;refine on ?_;refine cc rfl hM (fun hc6 hM=>?_) (fun hc6 hM=>?_)
    ·refine bD ?_;refine aZ ?_;refine om ?_;refine om ?_;refine bn (eX (α:=Str) 9 (fun _=>()) ([x4.str]:List Str) oF (fun r7=>?_));obtain⟨Y5,hM⟩:=dw hM;refine bn (iP (r:=oG) (r2:=r7) uR (Kn.ah (e:=9) (r:=r7) hA) oF (of_decide_eq_true Y5) (fun r8=>?_));refine oa ?_;refine bf (hJ2 r8 hM sS rI)
    refine sr ?_;refine oe (aiE (ts:=9) (v:=x4)) ?_;refine oe (eO (vs:=[vI x4.int,.bool x4.Jv])) ?_;refine oe (eO (vs:=[vI x4.int,.bool x4.Jv])) ?_;refine on ?_;refine cc rfl hM (fun uh hM=>?_) (fun uh hM=>?_)
    ·refine bD ?_;refine aZ ?_;refine om ?_;refine om ?_;obtain⟨fA,uX,hM⟩:=bind_some hM;refine cv (fun hs=>WQ _ _ x4.int fA uX (bC hs) (Chunk.mono _ _ _ _ (fun _ h=> .inl h) ((hA:Has _ (gL 3 iC)).φ hs))) ?_;refine bn (eX (α:=Str) 9 (fun _=>()) ([fA]:List Str) oF (fun qW=>?_));obtain⟨YV,hM⟩:=dw hM;refine bn (iP (r:=oG) (r2:=qW) uR (Kn.ah (e:=9) (r:=qW) hA) oF (of_decide_eq_true YV) (fun Ng=>?_));refine oa ?_;refine bf (hJ2 Ng hM sS rI)
    refine aX (hJ2 oG hM sS rI)
  clear hM;rintro zG Cx hM;dsimp only[Nb] at hM ⊢;refine aZ ?_;refine oe (dH (hr:=fun _=>by unfold d9;omega)) ?_;refine om ?_;refine bf (hL1 Cx hM sS rI)
 refine dL (hK3 _ _ ?_);clear hK3;dsimp only[aaL] at hM;refine aO ?_;refine aP ?_;obtain rfl:=some_inj hM;refine aW (jE (fun w hm=>dO oG hm rfl))
def zK(p0:kC)(nC:List Any):Option (List (List Str)):=
 (RH nC).bind fun y1=>
 bG (decide ((p0.lines.length+([y1]:List (List Str)).length)*24≤140737488355328))<|
 some (p0.lines++([y1]:List (List Str)))
theorem Fq(S:bB)(w:World)(dK:Nat)(p0:kC)(au:ak.R kC)(nC:List Any)(wK:ak.R (List Any))(y:(List (List Str)))(hM:zK p0 nC=some y)(hP:Pre S [own dK 112 (G5 p0 au),ah 22 au p0.lines] w)(YS:ak.ok S w wK nC)(BX:(gL 3 iC).φ S w):
  Calls Tryz.prog 47 #[vP dK,sL wK nC] w (Post (β:=(SR (ak.R (List Str)))) S [own dK 112 (G5 p0 au),ah 22 au p0.lines] (fun g=> .tuple #[]) (fun g=>[own dK 112 [sL g y],ah 22 g y]) w):=by
 refine bP (args:=[_,_]) Tryz.func47 rfl (hP.start |>.bU (α:=List Any) (r:=wK) (x:=nC) YS|>.Aw (c:=gL 3 iC) (fun _ h=>False.elim h) BX) rfl ?_;unfold zK at hM;refine iV [gL 3 iC,iL nC wK,own dK 112 (G5 p0 au)] 11 ?_;refine aF 0 rfl aH ?_;refine aF 1 rfl aH ?_;refine aF 2 rfl bY ?_;refine aF 3 rfl (aD 0) ?_;refine aF 4 rfl (aJ (b:=dK)) ?_;refine aF 5 rfl aH ?_;obtain⟨y1,hy2,hM⟩:=bind_some hM;refine dA 6 rfl (eU jw.nil (fun S w hs hP=>anU _ w nC wK y1 hy2 (bC hs) (kM hs) (Chunk.mono _ _ _ _ (fun _ h=> .inl h) ((hA:Has _ (gL 3 iC)).φ hs))) fK (fun r3=>⟨rI,?_⟩));dsimp only[cA,nA];refine rF (fun w hm=>hm.freeze (r:=r3) uA) ?_;refine dA 7 rfl (eX (α:=List Str) 22 (fun _=>r3) ([y1]:List (List Str)) (jr.cons (fun S w hs=>(kI hs)) jr.nil) (fun r4=>⟨rI,?_⟩));obtain⟨hb6,hM⟩:=dw hM;refine dA 8 rfl (iP (r:=au) (r2:=r4) uR (Kn.ah (e:=22) (r:=r4) hA) (jr.row (e:=22) (r:=r4) hA) (of_decide_eq_true hb6) (fun r5=>⟨rI,?_⟩));refine aF 9 rfl bY ?_;refine aF 10 rfl (aD 0) ?_;refine iU rfl (ku (b:=dK) (vs:=[.slice r5.a ((p0.lines++([y1]:List (List Str))).length) r5.cap]) (k:=?_));obtain rfl:=some_inj hM;refine iR (yG rfl (fun w hm=>dO r5 hm rfl))
def Nc(l0:Layout)(x6:Step)(iZ:List Str)(aY:((List Str)×Nat)→Option (List (List Str)))(jo:Nat):Str→Option (List (List Str)):=fun Jc=>
 (idx l0.Sections x6.Section).bind fun x9=>
 bG (decide ((iZ.length+([x9.Name,Jc]:List Str).length)*16≤140737488355328))<|
 aY ((iZ++([x9.Name,Jc]:List Str)),jo+1)
def Nf(p0:kC):(List Str)→Option (List (List Str)):=fun Fa=>
 bG (decide ((p0.lines.length+([Fa]:List (List Str)).length)*24≤140737488355328))<|
 some (p0.lines++([Fa]:List (List Str)))
def aaM(r0:aQ)(iZ:List Str)(p0:kC):Unit→Option (List (List Str)):=fun _=>
 if decide (r0.Overlap≠0) then
  ((Ip r0.Overlap).bind fun oo=>
  bG (decide ((iZ.length+([(⟨[111,118,101,114,108,97,112]⟩:Str),oo]:List Str).length)*16≤140737488355328))<|
  Nf p0 (iZ++([(⟨[111,118,101,114,108,97,112]⟩:Str),oo]:List Str)))
 else
  (Nf p0 iZ)
def RI(r0:aQ)(l0:Layout)(p0:kC)(aY:((List Str)×Nat)→Option (List (List Str))):((List Str)×Nat)→Option (List (List Str)):=fun (iZ,jo)=>
 if decide ((jo:Int)<(r0.Steps.length:Int)) then
  ((idx r0.Steps (jo:Int)).bind fun x6=>
  if decide (x6.Dir=1) then
   (Nc l0 x6 iZ aY jo (⟨[100,111,119,110]⟩:Str))
  else
   (Nc l0 x6 iZ aY jo (⟨[117,112]⟩:Str)))
 else
  (aaM r0 iZ p0 ())
def RJ(p0:kC)(l0:Layout)(r0:aQ):Option (List (List Str)):=
 iter (RI r0 l0 p0) FUEL (([(⟨[114,111,117,116,101]⟩:Str)]:List Str),0)
theorem anW(S:bB)(w:World)(dK:Nat)(p0:kC)(au:ak.R kC)(l0:Layout)(aC:ak.R Layout)(r0:aQ)(aj:ak.R aQ)(y:(List (List Str)))(hM:RJ p0 l0 r0=some y)(hP:Pre S [own dK 112 (G5 p0 au),ah 22 au p0.lines] w)(fG:ak.ok S w aC l0)(uT:ak.ok S w aj r0)(BX:(gL 3 iC).φ S w):
   Calls Tryz.prog 48 #[vP dK,.agg (lC l0 aC),.agg (C9 r0 aj)] w (Post (β:=(SR (ak.R (List Str)))) S [own dK 112 (G5 p0 au),ah 22 au p0.lines] (fun g=> .tuple #[]) (fun g=>[own dK 112 [sL g y],ah 22 g y]) w):=by
 refine bP (args:=[_,_,_]) Tryz.func48 rfl (hP.start |>.lS fG|>.bU (α:=List Step) (r:=aj) (x:=r0.Steps) uT|>.Aw (c:=gL 3 iC) (fun _ h=>False.elim h) BX) rfl ?_;unfold RJ at hM;refine sr ?_;refine oB (dP l0 aC) fun b1=>?_;refine oB (nU r0 aj) fun b2=>?_;refine on ?_;refine sr ?_;refine bn (eX (α:=Str) 9 (fun _=>()) ([(⟨[114,111,117,116,101]⟩:Str)]:List Str) oF (fun r3=>?_));refine aP ?_;refine aG fun K3 hK3=>?_;refine sr ?_;refine oe (aD 0) ?_;refine oe (aJ (b:=b2)) ?_;refine iO (fun w hm=>Kn.len (kG r0.Steps aj) hm) fun hl4=>?_;refine oe bJ ?_;refine om ?_;refine on ?_
 refine bF ?_;refine lp r3 hM (fun (iZ,jo) oG=>[(0,eP dK),(4,eP b1),(5,eP b2),(6,eS oG iZ),(12,eS aj r0.Steps),(13,eI (r0.Steps.length:Int)),(14,eI (jo:Int))]) (fun (iZ,jo) oG=>[ah 22 au p0.lines,own dK 112 (G5 p0 au),iL l0.aM aC.1,iL l0.aV aC.2.1,iL l0.Sections aC.2.2.1,iL l0.Links aC.2.2.2,own b1 26 (dP l0 aC),iL r0.Steps aj,own b2 90 (nU r0 aj),ah 9 oG iZ,gL 3 iC]) sS rI ?_;clear hM;rintro aY ⟨iZ,jo⟩ oG hM gu hL1;dsimp only[RI] at hM ⊢;refine sr ?_;refine oe cO ?_;refine on ?_;refine aG fun K6 bZ=>?_;refine cc rfl hM (fun jA hM=>?_) (fun jA hM=>?_)
 ·have adx:=of_decide_eq_true jA;refine aX (bZ _ _ ?_);clear bZ;refine aG fun K7 dZ=>?_;refine bF ?_;refine sr ?_;obtain⟨x6,hx7,hM⟩:=bind_some hM;refine oe (bI (xs:=r0.Steps) 2 (kG r0.Steps aj) (iS hx7)) ?_;refine oe (fO (m:=2) (i:=(jo:Int)) (xs:=r0.Steps) (y:=x6) (l:=(qU x6)) 0 (kG r0.Steps aj) (fun _=>hx7)) ?_;refine oA rfl fun b8=>?_;refine oS b8 (qU x6) ?_;refine on ?_;refine bD ?_;refine jm y (k:=Nc l0 x6 iZ aY jo) (fun Jc=>[(0,eP dK),(4,eP b1),(5,eP b2),(6,eS oG iZ),(8,eP b8),(9,.v (.string Jc.ba)),(12,eS aj r0.Steps),(13,eI (r0.Steps.length:Int)),(14,eI (jo:Int))]) (fun Jc=>[ah 22 au p0.lines,own dK 112 (G5 p0 au),iL l0.aM aC.1,iL l0.aV aC.2.1,iL l0.Sections aC.2.2.1,iL l0.Links aC.2.2.2,own b1 26 (dP l0 aC),iL r0.Steps aj,own b2 90 (nU r0 aj),ah 9 oG iZ,own b8 92 (qU x6),gL 3 iC]) ?_ ?_
  · intro za hJ2;refine sr ?_;refine oe (aD 1) ?_;refine oe (aJ (b:=b8)) ?_;refine oe eu ?_;refine on ?_;refine cc rfl hM (fun zl hM=>?_) (fun zl hM=>?_)
    ·refine aZ ?_;refine oa ?_;refine bf (hJ2 hM sS rI)
    refine aX (hJ2 hM sS rI)
  clear hM;rintro Jc hM;dsimp only[Nc] at hM ⊢;refine aZ ?_;refine om ?_;refine oe (aD 2) ?_;refine oe (aJ (b:=b1)) ?_;refine oe (aD 0) ?_;refine oe (aJ (b:=b8)) ?_;obtain⟨x9,ni,hM⟩:=bind_some hM;refine oe (bI (xs:=l0.Sections) 5 (kG l0.Sections aC.2.2.1) (iS ni)) ?_;refine oe (aD 0) ?_;refine oe (dh (i:=x6.Section) (xs:=l0.Sections) (y:=x9) 0 (kG l0.Sections aC.2.2.1) (fun _=>ni)) ?_;refine om ?_;refine bn (eX (α:=Str) 9 (fun _=>()) ([x9.Name,Jc]:List Str) oF (fun Ho=>?_));obtain⟨ajL,hM⟩:=dw hM;refine bn (iP (r:=oG) (r2:=Ho) uR (Kn.ah (e:=9) (r:=Ho) hA) oF (of_decide_eq_true ajL) (fun J6=>?_));refine oa ?_;refine bf (dZ _ _ ?_);clear dZ;refine aZ ?_;refine oe (dH (hr:=fun _=>by unfold d9;omega)) ?_;refine om ?_;refine bf (hL1 J6 hM sS rI)
 refine dL (hK3 _ _ ?_);clear hK3;dsimp only[aaM] at hM;refine jn (SR (ak.R Str)) y (k:=Nf p0) (fun Fa Ns=>[(0,eP dK),(6,eS Ns Fa)]) (fun Fa Ns=>[ah 22 au p0.lines,own dK 112 (G5 p0 au),ah 9 Ns Fa,gL 3 iC]) ?_ ?_
 ·intro Og hJ3;refine sr ?_;refine oe (aD 1) ?_;refine oe (aJ (b:=b2)) ?_;refine oe iy ?_;refine on ?_;refine cc rfl hM (fun hc18 hM=>?_) (fun hc18 hM=>?_)
  · refine aZ ?_;refine om ?_;refine oe (aD 1) ?_;refine oe (aJ (b:=b2)) ?_;obtain⟨oo,Js,hM⟩:=bind_some hM;refine cv (fun hs=>WQ _ _ r0.Overlap oo Js (bC hs) (Chunk.mono _ _ _ _ (fun _ h=> .inl h) ((hA:Has _ (gL 3 iC)).φ hs))) ?_;refine bn (eX (α:=Str) 9 (fun _=>()) ([(⟨[111,118,101,114,108,97,112]⟩:Str),oo]:List Str) oF (fun uI=>?_));obtain⟨Y1,hM⟩:=dw hM;refine bn (iP (r:=oG) (r2:=uI) uR (Kn.ah (e:=9) (r:=uI) hA) oF (of_decide_eq_true Y1) (fun xQ=>?_));refine oa ?_;refine bf (hJ3 xQ hM sS rI)
  refine aX (hJ3 oG hM sS rI)
 clear hM;rintro Fa Ns hM;dsimp only[Nf] at hM ⊢;refine aZ ?_;refine om ?_;refine om ?_;refine oe bY ?_;refine oe (aD 0) ?_;refine oe (aJ (b:=dK)) ?_;refine om ?_;refine rQ (fun w hm=>hm.freeze (r:=Ns) uA) ?_;refine bn (eX (α:=List Str) 22 (fun _=>Ns) ([Fa]:List (List Str)) (jr.cons (fun S w hs=>(kI hs)) jr.nil) (fun nD=>?_));obtain⟨YW,hM⟩:=dw hM;refine bn (iP (r:=au) (r2:=nD) uR (Kn.ah (e:=22) (r:=nD) hA) (jr.row (e:=22) (r:=nD) hA) (of_decide_eq_true YW) (fun r16=>?_));refine oe bY ?_;refine oe (aD 0) ?_;refine oS dK [.slice r16.a ((p0.lines++([Fa]:List (List Str))).length) r16.cap] ?_;obtain rfl:=some_inj hM;refine bf (yG rfl (fun w hm=>dO r16 hm rfl))
def J2(su:Int)(hi0:Int):Option Str:=
 (Ip su).bind fun y1=>
 (vM y1 (⟨[46,46]⟩:Str)).bind fun q3=>
 (Ip hi0).bind fun y5=>
 (vM q3 y5).bind fun q7=>
 some q7
theorem aaI(S:bB)(w:World)(su:Int)(hi0:Int)(y:Str)(hM:J2 su hi0=some y)(hS:sB S w)(BX:(gL 3 iC).φ S w):
  Calls Tryz.prog 49 #[vI su,vI hi0] w (cu w (.string y.ba)):=by
 refine bP (args:=[_,_]) Tryz.func49 rfl ((pre_nil hS).start |>.Aw (c:=gL 3 iC) (fun _ h=>False.elim h) BX) rfl ?_;unfold J2 at hM;refine bD ?_;refine aO ?_;obtain⟨y1,hy2,hM⟩:=bind_some hM;refine cv (fun hs=>WQ _ _ su y1 hy2 (bC hs) (Chunk.mono _ _ _ _ (fun _ h=> .inl h) ((hA:Has _ (gL 3 iC)).φ hs))) ?_;obtain⟨q3,hq4,hM⟩:=bind_some hM;refine oe (Ut (fun _=>hq4)) ?_;refine om ?_;obtain⟨y5,kU,hM⟩:=bind_some hM;refine cv (fun hs=>WQ _ _ hi0 y5 kU (bC hs) (Chunk.mono _ _ _ _ (fun _ h=> .inl h) ((hA:Has _ (gL 3 iC)).φ hs))) ?_;obtain⟨q7,hq8,hM⟩:=bind_some hM;refine oe (Ut (fun _=>hq8)) ?_;refine aP ?_;exact aW (bN hM)
def ML(Aq:((List (List Str))×Nat)→Option (Str×Int))(zV:Nat):(List (List Str))→Option (Str×Int):=fun Ms=>
 Aq (Ms,zV+1)
def aeY(nO:((List (List Str))×Nat)→Option (Str×Int))(yK:List (List Str))(tL:Nat):Unit→Option (Str×Int):=fun _=>
 nO (yK,tL+1)
def MH(x31:Line)(nO:((List (List Str))×Nat)→Option (Str×Int))(tL:Nat)(Aq:((List (List Str))×Nat)→Option (Str×Int)):((List (List Str))×Nat)→Option (Str×Int):=fun (yK,zV)=>
 if decide ((zV:Int)<(x31.bL.length:Int)) then
  ((idx x31.bL (zV:Int)).bind fun lH=>
  if decide (lH.Max≠0) then
   ((J2 lH.Min lH.Max).bind fun sK=>
   (zK (kC.mk yK) ([(Any.s (⟨[114,105,100,101]⟩:Str)),(Any.i lH.aQ),(Any.i lH.Extra),(Any.s sK)]:List Any)).bind fun FZ=>
   ML Aq zV FZ)
  else
   ((zK (kC.mk yK) ([(Any.s (⟨[114,105,100,101]⟩:Str)),(Any.i lH.aQ),(Any.i lH.Extra)]:List Any)).bind fun pK=>
   ML Aq zV pK))
 else
  (aeY nO yK tL ())
def aeZ(zI:List (List Str)):Unit→Option (Str×Int):=fun _=>
 (IK zI).bind fun y112=>
 some (y112,0)
def Rp(p0:Plan)(l0:Layout)(acC:((List (List Str))×Nat)→Option (Str×Int)):((List (List Str))×Nat)→Option (Str×Int):=fun (zI,Iw)=>
 if decide ((Iw:Int)<(p0.bg.length:Int)) then
  ((idx p0.bg (Iw:Int)).bind fun x101=>
  (idx l0.aM x101.From).bind fun x104=>
  (idx l0.aM x101.To).bind fun N8=>
  (zK (kC.mk zI) ([(Any.s (⟨[100,101,109,97,110,100]⟩:Str)),(Any.s x104),(Any.s N8),(Any.i x101.Weight)]:List Any)).bind fun Ag=>
  acC (Ag,Iw+1))
 else
  (aeZ zI ())
def MP(p0:Plan)(l0:Layout)(AX:List (List Str)):Unit→Option (Str×Int):=fun _=>
 iter (Rp p0 l0) FUEL (AX,0)
def Ro(p0:Plan)(l0:Layout)(acB:((List (List Str))×Nat)→Option (Str×Int)):((List (List Str))×Nat)→Option (Str×Int):=fun (AX,Iu)=>
 if decide ((Iu:Int)<(p0.bq.length:Int)) then
  ((idx p0.bq (Iu:Int)).bind fun x88=>
  (idx p0.Lines x88.mD).bind fun x91=>
  (idx p0.Lines x88.mQ).bind fun x93=>
  (zK (kC.mk AX) ([(Any.s (⟨[115,121,110,99]⟩:Str)),(Any.s x91.Name),(Any.i x88.lV),(Any.s x93.Name),(Any.i x88.mE),(Any.i x88.Offset)]:List Any)).bind fun y96=>
  acB (y96,Iu+1))
 else
  (MP p0 l0 AX ())
def MO(p0:Plan)(l0:Layout)(AV:List (List Str)):Unit→Option (Str×Int):=fun _=>
 iter (Ro p0 l0) FUEL (AV,0)
def Rn(p0:Plan)(l0:Layout)(acA:((List (List Str))×Nat)→Option (Str×Int)):((List (List Str))×Nat)→Option (Str×Int):=fun (AV,Ir)=>
 if decide ((Ir:Int)<(p0.Turns.length:Int)) then
  ((idx p0.Turns (Ir:Int)).bind fun Af=>
  (idx p0.Lines Af.From).bind fun Oa=>
  (idx p0.Lines Af.To).bind fun yg=>
  (J2 Af.Min Af.Max).bind fun rV=>
  (zK (kC.mk AV) ([(Any.s (⟨[116,117,114,110]⟩:Str)),(Any.s Oa.Name),(Any.s yg.Name),(Any.s rV)]:List Any)).bind fun y83=>
  acA (y83,Ir+1))
 else
  (MO p0 l0 AV ())
def MN(p0:Plan)(l0:Layout)(AU:List (List Str)):Unit→Option (Str×Int):=fun _=>
 iter (Rn p0 l0) FUEL (AU,0)
def Rm(p0:Plan)(l0:Layout)(OO:((List (List Str))×Nat)→Option (Str×Int)):((List (List Str))×Nat)→Option (Str×Int):=fun (AU,Iq)=>
 if decide ((Iq:Int)<(p0.Changes.length:Int)) then
  ((idx p0.Changes (Iq:Int)).bind fun pJ=>
  (idx p0.Lines pJ.jk).bind fun CS=>
  (idx p0.Lines pJ.kg).bind fun N9=>
  (J2 pJ.Min pJ.Max).bind fun pO=>
  (zK (kC.mk AU) ([(Any.s (⟨[99,104,97,110,103,101]⟩:Str)),(Any.s CS.Name),(Any.i pJ.kP),(Any.s N9.Name),(Any.i pJ.mX),(Any.s pO),(Any.i pJ.Weight)]:List Any)).bind fun Ai=>
  OO (Ai,Iq+1))
 else
  (MN p0 l0 AU ())
def MK(p0:Plan)(l0:Layout)(AQ:List (List Str)):Unit→Option (Str×Int):=fun _=>
 iter (Rm p0 l0) FUEL (AQ,0)
def Rl(p0:Plan)(l0:Layout)(nO:((List (List Str))×Nat)→Option (Str×Int)):((List (List Str))×Nat)→Option (Str×Int):=fun (AQ,tL)=>
 if decide ((tL:Int)<(p0.Lines.length:Int)) then
  ((idx p0.Lines (tL:Int)).bind fun x31=>
  (idx p0.aU x31.bA).bind fun x34=>
  (zK (kC.mk AQ) ([(Any.s (⟨[108,105,110,101]⟩:Str)),(Any.s x31.Name),(Any.s x34.Name),(Any.i x31.Weight)]:List Any)).bind fun Bu=>
  iter (MH x31 nO tL) FUEL (Bu,0))
 else
  (MK p0 l0 AQ ())
def MJ(p0:Plan)(l0:Layout)(DC:List (List Str)):Unit→Option (Str×Int):=fun _=>
 iter (Rl p0 l0) FUEL (DC,0)
def Rk(p0:Plan)(l0:Layout)(gN:((List (List Str))×Nat)→Option (Str×Int)):((List (List Str))×Nat)→Option (Str×Int):=fun (DC,CP)=>
 if decide ((CP:Int)<(p0.Routes.length:Int)) then
  ((idx p0.Routes (CP:Int)).bind fun x23=>
  (RJ (kC.mk DC) l0 x23).bind fun qL=>
  gN (qL,CP+1))
 else
  (MJ p0 l0 DC ())
def MI(p0:Plan)(l0:Layout)(Dz:List (List Str)):Unit→Option (Str×Int):=fun _=>
 iter (Rk p0 l0) FUEL (Dz,0)
def MG(p0:Plan)(l0:Layout)(aY:((List (List Str))×Nat)→Option (Str×Int)):((List (List Str))×Nat)→Option (Str×Int):=fun (Dz,IB)=>
 if decide ((IB:Int)<(p0.aU.length:Int)) then
  ((idx p0.aU (IB:Int)).bind fun jZ=>
  (zK (kC.mk Dz) ([(Any.s (⟨[115,116,111,99,107]⟩:Str)),(Any.s jZ.Name),(Any.i jZ.Length),(Any.i jZ.tX),(Any.i jZ.tQ),(Any.i jZ.tV)]:List Any)).bind fun jV=>
  aY (jV,IB+1))
 else
  (MI p0 l0 Dz ())
def Rq(l0:Layout)(p0:Plan):Option (Str×Int):=
 (JR l0 p0).bind fun y3=>
 if decide (y3≠0) then
  (some ((⟨[]⟩:Str),1))
 else
  ((zK (kC.mk ([]:List (List Str))) ([(Any.s (⟨[112,101,114,105,111,100]⟩:Str)),(Any.i p0.bR)]:List Any)).bind fun y9=>
  iter (MG p0 l0) FUEL (y9,0))
theorem anw(S:bB)(w:World)(l0:Layout)(aC:ak.R Layout)(p0:Plan)(au:ak.R Plan)(y:Str×Int)(hM:Rq l0 p0=some y)(hS:sB S w)(fG:ak.ok S w aC l0)(gI:ak.ok S w au p0)(BX:(gL 3 iC).φ S w):
   Calls Tryz.prog 20 #[.agg (lC l0 aC),.agg (mY p0 au)] w (cu w (.tuple #[.string y.1.ba,vI y.2])):=by
 refine bP (args:=[_,_]) Tryz.func20 rfl ((pre_nil hS).start |>.lS fG|>.oC gI|>.Aw (c:=gL 3 iC) (fun _ h=>False.elim h) BX) rfl ?_;unfold Rq at hM;refine sr ?_;refine oB (dP l0 aC) fun b1=>?_;refine oB (gZ p0 au) fun b2=>?_
 refine oa ?_;refine aP ?_;refine aG fun K2 hK2=>?_;refine sr ?_;refine oe (bX (b:=b1)) ?_;refine oe (bX (b:=b2)) ?_;obtain⟨y3,hy4,hM⟩:=bind_some hM;refine cv (fun hs=>aay _ _ l0 aC p0 au y3 hy4 (bC hs) ⟨(kM hs),(kM hs),(kM hs),(kM hs)⟩ ⟨(kM hs),(kM hs),(kM hs),(kM hs),(kM hs),(kM hs),(kM hs)⟩) ?_;refine oe iy ?_;refine on ?_;refine cc rfl hM (fun jA hM=>?_) (fun jA hM=>?_)
 ·refine sr ?_;refine oa ?_;refine aP ?_;exact aW (vH hM)
 refine aX (hK2 _ _ ?_);clear hK2;refine sr ?_;refine oe (fT [z0]) ?_;refine oB [z0] fun b6=>?_;refine aP ?_;refine aO ?_;refine oe (qo (ti:=3) (s:=(⟨[112,101,114,105,111,100]⟩:Str))) ?_;refine oe (aD 0) ?_;refine oe (aJ (b:=b2)) ?_;refine oe (uQ (ts:=9) (i:=p0.bR)) ?_;refine bn (eX (α:=Any) 20 (fun _=>()) ([(Any.s (⟨[112,101,114,105,111,100]⟩:Str)),(Any.i p0.bR)]:List Any) oF (fun r7=>?_));refine rQ (fun w hm=>hm.bV (α:=List Str) 22 (fun _=>je)) ?_;refine rQ (fun w hm=>hm.freeze (r:=r7) uA) ?_;obtain⟨y9,EN,hM⟩:=bind_some hM;refine bn (fq sA (fun S w hs hP=>Fq _ w b6 (kC.mk ([]:List (List Str))) amI ([(Any.s (⟨[112,101,114,105,111,100]⟩:Str)),(Any.i p0.bR)]:List Any) r7 y9 EN hP (kI hs) ((hA:Has _ (gL 3 iC)).φ hs)) (fun Ho=>?_));dsimp only[cA,nA];refine on ?_;refine aG fun K7 dZ=>?_;refine sr ?_;refine oe (aD 1) ?_;refine oe (aJ (b:=b2)) ?_
 refine iO (fun w hm=>Kn.len (kG p0.aU au.1) hm) fun hl12=>?_;refine oe bJ ?_;refine om ?_;refine on ?_;refine bF ?_;refine lp Ho hM (fun (Dz,IB) NC=>[(2,eP b1),(3,eP b2),(6,eP b6),(37,eS au.1 p0.aU),(38,eI (p0.aU.length:Int)),(39,eI (IB:Int))]) (fun (Dz,IB) NC=>[iL l0.aM aC.1,iL l0.aV aC.2.1,iL l0.Sections aC.2.2.1,iL l0.Links aC.2.2.2,own b1 26 (dP l0 aC),iL p0.aU au.1,iL p0.Routes au.2.1,iL p0.Lines au.2.2.1,iL p0.Changes au.2.2.2.1,iL p0.Turns au.2.2.2.2.1,iL p0.bq au.2.2.2.2.2.1,iL p0.bg au.2.2.2.2.2.2,own b2 35 (gZ p0 au),ah 22 NC Dz,own b6 112 [sL NC Dz],gL 3 iC]) sS rI ?_
 clear hM;rintro aY ⟨Dz,IB⟩ NC hM gu hL1;dsimp only[MG] at hM ⊢;refine sr ?_;refine oe cO ?_;refine on ?_;refine aG fun uN gX=>?_;refine cc rfl hM (fun BS hM=>?_) (fun BS hM=>?_)
 ·have aj7:=of_decide_eq_true BS;refine aX (gX _ _ ?_);clear gX;refine aG fun o7 eH=>?_;refine bF ?_;refine sr ?_;obtain⟨jZ,EM,hM⟩:=bind_some hM;refine oe (bI (xs:=p0.aU) 5 (kG p0.aU au.1) (iS EM)) ?_;refine oe (fO (m:=5) (i:=(IB:Int)) (xs:=p0.aU) (y:=jZ) (l:=(sF jZ)) 0 (kG p0.aU au.1) (fun _=>EM)) ?_;refine oA rfl fun b16=>?_;refine oS b16 (sF jZ) ?_;refine on ?_;refine aZ ?_;refine om ?_;refine oe (qo (ti:=3) (s:=(⟨[115,116,111,99,107]⟩:Str))) ?_;refine oe (aD 0) ?_;refine oe (aJ (b:=b16)) ?_;refine oe (qo (ti:=3) (s:=jZ.Name)) ?_;refine oe (aD 1) ?_;refine oe (aJ (b:=b16)) ?_;refine oe (uQ (ts:=9) (i:=jZ.Length)) ?_;refine oe (aD 2) ?_;refine oe (aJ (b:=b16)) ?_;refine oe (uQ (ts:=9) (i:=jZ.tX)) ?_;refine oe (aD 3) ?_;refine oe (aJ (b:=b16)) ?_;refine oe (uQ (ts:=9) (i:=jZ.tQ)) ?_;refine oe (aD 4) ?_
  refine oe (aJ (b:=b16)) ?_;refine oe (uQ (ts:=9) (i:=jZ.tV)) ?_;refine bn (eX (α:=Any) 20 (fun _=>()) ([(Any.s (⟨[115,116,111,99,107]⟩:Str)),(Any.s jZ.Name),(Any.i jZ.Length),(Any.i jZ.tX),(Any.i jZ.tQ),(Any.i jZ.tV)]:List Any) oF (fun uG=>?_));refine rQ (fun w hm=>hm.freeze (r:=uG) uA) ?_;obtain⟨jV,xD,hM⟩:=bind_some hM;refine bn (fq sA (fun S w hs hP=>Fq _ w b6 (kC.mk Dz) NC ([(Any.s (⟨[115,116,111,99,107]⟩:Str)),(Any.s jZ.Name),(Any.i jZ.Length),(Any.i jZ.tX),(Any.i jZ.tQ),(Any.i jZ.tV)]:List Any) uG jV xD hP (kI hs) ((hA:Has _ (gL 3 iC)).φ hs)) (fun zM=>?_));dsimp only[cA,nA];refine bf (eH _ _ ?_);clear eH;refine aZ ?_;refine oe (dH (hr:=fun _=>by unfold d9;omega)) ?_;refine om ?_;refine bf (hL1 zM hM sS rI)
 refine dL (dZ _ _ ?_);clear dZ;dsimp only[MI] at hM;refine aG fun BA kS=>?_;refine sr ?_;refine oe (aD 2) ?_;refine oe (aJ (b:=b2)) ?_;refine iO (fun w hm=>Kn.len (kG p0.Routes au.2.1) hm) fun aqD=>?_;refine oe bJ ?_;refine om ?_;refine on ?_;refine bF ?_;refine lp NC hM (fun (DC,CP) ND=>[(2,eP b1),(3,eP b2),(6,eP b6),(64,eS au.2.1 p0.Routes),(65,eI (p0.Routes.length:Int)),(66,eI (CP:Int))]) (fun (DC,CP) ND=>[iL l0.aM aC.1,iL l0.aV aC.2.1,iL l0.Sections aC.2.2.1,iL l0.Links aC.2.2.2,own b1 26 (dP l0 aC),iL p0.aU au.1,iL p0.Routes au.2.1,iL p0.Lines au.2.2.1,iL p0.Changes au.2.2.2.1,iL p0.Turns au.2.2.2.2.1,iL p0.bq au.2.2.2.2.2.1,iL p0.bg au.2.2.2.2.2.2,own b2 35 (gZ p0 au),ah 22 ND DC,own b6 112 [sL ND DC],gL 3 iC]) sS rI ?_
 clear hM;rintro gN ⟨DC,CP⟩ ND hM BD hL2;dsimp only[Rk] at hM ⊢;refine sr ?_;refine oe cO ?_;refine on ?_;refine aG fun F6 oL=>?_;refine cc rfl hM (fun hc22 hM=>?_) (fun hc22 hM=>?_)
 ·have aqr:=of_decide_eq_true hc22;refine aX (oL _ _ ?_);clear oL;refine aG fun T9 yD=>?_;refine bF ?_;refine sr ?_;obtain⟨x23,hx24,hM⟩:=bind_some hM;refine oe (bI (xs:=p0.Routes) 2 (kG p0.Routes au.2.1) (iS hx24)) ?_;refine oe (fO (m:=2) (i:=(CP:Int)) (xs:=p0.Routes) (y:=x23) (l:=(nU x23 (au.2.1.es (CP:Int).toNat))) 0 (kG p0.Routes au.2.1) (fun _=>hx24)) ?_;refine oA rfl fun I4=>?_;refine oS I4 (nU x23 (au.2.1.es (CP:Int).toNat)) ?_;refine on ?_;refine aZ ?_;refine om ?_;refine oe (bX (b:=b1)) ?_;refine oe (bX (b:=I4)) ?_;obtain⟨qL,hy27,hM⟩:=bind_some hM;refine bn (fq sA (fun S w hs hP=>anW _ w b6 (kC.mk DC) ND l0 aC x23 (au.2.1.es (CP:Int).toNat) qL hy27 hP ⟨(kI hs),(kI hs),(kI hs),(kI hs)⟩ ((Sk.elem (Sk.dW (α:=List aQ) (r:=au.2.1) (x:=p0.Routes) hA) hx24) S w hs) ((hA:Has _ (gL 3 iC)).φ hs)) (fun Nh=>?_));dsimp only[cA,nA];refine bf (yD _ _ ?_);clear yD;refine aZ ?_
  refine oe (dH (hr:=fun _=>by unfold d9;omega)) ?_;refine om ?_;refine bf (hL2 Nh hM sS rI)
 refine dL (kS _ _ ?_);clear kS;dsimp only[MJ] at hM;refine aG fun KJ rZ=>?_;refine sr ?_;refine oe (aD 3) ?_;refine oe (aJ (b:=b2)) ?_;refine iO (fun w hm=>Kn.len (kG p0.Lines au.2.2.1) hm) fun aqG=>?_;refine oe bJ ?_;refine om ?_;refine on ?_;refine bF ?_;refine lp ND hM (fun (AQ,tL) Ii=>[(2,eP b1),(3,eP b2),(6,eP b6),(76,eS au.2.2.1 p0.Lines),(77,eI (p0.Lines.length:Int)),(78,eI (tL:Int))]) (fun (AQ,tL) Ii=>[iL l0.aM aC.1,iL l0.aV aC.2.1,iL l0.Sections aC.2.2.1,iL l0.Links aC.2.2.2,own b1 26 (dP l0 aC),iL p0.aU au.1,iL p0.Routes au.2.1,iL p0.Lines au.2.2.1,iL p0.Changes au.2.2.2.1,iL p0.Turns au.2.2.2.2.1,iL p0.bq au.2.2.2.2.2.1,iL p0.bg au.2.2.2.2.2.2,own b2 35 (gZ p0 au),ah 22 Ii AQ,own b6 112 [sL Ii AQ],gL 3 iC]) sS rI ?_
 clear hM;rintro nO ⟨AQ,tL⟩ Ii hM Oh hL3;dsimp only[Rl] at hM ⊢;refine sr ?_;refine oe cO ?_;refine on ?_;refine aG fun Oe uS=>?_;refine cc rfl hM (fun GI hM=>?_) (fun GI hM=>?_)
 ·have aqt:=of_decide_eq_true GI;refine aX (uS _ _ ?_);clear uS;refine aG fun K23 Gs=>?_;refine bF ?_;refine sr ?_;obtain⟨x31,hx32,hM⟩:=bind_some hM;refine oe (bI (xs:=p0.Lines) 4 (kG p0.Lines au.2.2.1) (iS hx32)) ?_;refine oe (fO (m:=4) (i:=(tL:Int)) (xs:=p0.Lines) (y:=x31) (l:=(mV x31 (au.2.2.1.es (tL:Int).toNat))) 0 (kG p0.Lines au.2.2.1) (fun _=>hx32)) ?_;refine oA rfl fun Eo=>?_;refine oS Eo (mV x31 (au.2.2.1.es (tL:Int).toNat)) ?_;refine on ?_;refine aG fun K25 Gu=>?_;refine iV [own Eo 56 (mV x31 (au.2.2.1.es (tL:Int).toNat)),iL l0.aM aC.1,iL l0.aV aC.2.1,iL l0.Sections aC.2.2.1,iL l0.Links aC.2.2.2,own b1 26 (dP l0 aC),iL p0.aU au.1,iL p0.Routes au.2.1,iL p0.Lines au.2.2.1,iL p0.Changes au.2.2.2.1,iL p0.Turns au.2.2.2.2.1,iL p0.bq au.2.2.2.2.2.1,iL p0.bg au.2.2.2.2.2.2,own b2 35 (gZ p0 au),ah 22 Ii AQ,own b6 112 [sL Ii AQ],gL 3 iC] 17 ?_
  refine aF 0 rfl aH ?_;refine aF 1 rfl (qo (ti:=3) (s:=(⟨[108,105,110,101]⟩:Str))) ?_;refine aF 2 rfl (aD 0) ?_;refine aF 3 rfl (aJ (b:=Eo)) ?_;refine aF 4 rfl (qo (ti:=3) (s:=x31.Name)) ?_;refine aF 5 rfl (aD 1) ?_;refine aF 6 rfl (aJ (b:=b2)) ?_;refine aF 7 rfl (aD 1) ?_;refine aF 8 rfl (aJ (b:=Eo)) ?_;obtain⟨x34,zo,hM⟩:=bind_some hM;refine aF 9 rfl (bI (xs:=p0.aU) 5 (kG p0.aU au.1) (iS zo)) ?_;refine aF 10 rfl (aD 0) ?_;refine aF 11 rfl (dh (i:=x31.bA) (xs:=p0.aU) (y:=x34) 0 (kG p0.aU au.1) (fun _=>zo)) ?_;refine aF 12 rfl (qo (ti:=3) (s:=x34.Name)) ?_;refine aF 13 rfl (aD 2) ?_;refine aF 14 rfl (aJ (b:=Eo)) ?_;refine aF 15 rfl (uQ (ts:=9) (i:=x31.Weight)) ?_;refine dA 16 rfl (eX (α:=Any) 20 (fun _=>()) ([(Any.s (⟨[108,105,110,101]⟩:Str)),(Any.s x31.Name),(Any.s x34.Name),(Any.i x31.Weight)]:List Any) oF (fun J7=>⟨rI,?_⟩));refine rF (fun w hm=>hm.freeze (r:=J7) uA) ?_;obtain⟨Bu,hy38,hM⟩:=bind_some hM;refine iU rfl (fq sA (fun S w hs hP=>Fq _ w b6 (kC.mk AQ) Ii ([(Any.s (⟨[108,105,110,101]⟩:Str)),(Any.s x31.Name),(Any.s x34.Name),(Any.i x31.Weight)]:List Any) J7 Bu hy38 hP (kI hs) ((hA:Has _ (gL 3 iC)).φ hs)) (fun J9=>?_))
  dsimp only[cA,nA];refine iR (Gu _ _ ?_);clear Gu;refine sr ?_;refine oe (aD 3) ?_;refine oe (aJ (b:=Eo)) ?_;refine iO (fun w hm=>Kn.len ((Sk.elem (Sk.dW (α:=List Line) (r:=au.2.2.1) (x:=p0.Lines) hA) hx32)).kn hm) fun aqI=>?_;refine oe bJ ?_;refine om ?_;refine on ?_;refine bF ?_;refine lp J9 hM (fun (yK,zV) FB=>[(2,eP b1),(3,eP b2),(6,eP b6),(76,eS au.2.2.1 p0.Lines),(77,eI (p0.Lines.length:Int)),(78,eI (tL:Int)),(101,eS (au.2.2.1.es (tL:Int).toNat) x31.bL),(102,eI (x31.bL.length:Int)),(103,eI (zV:Int))]) (fun (yK,zV) FB=>[iL l0.aM aC.1,iL l0.aV aC.2.1,iL l0.Sections aC.2.2.1,iL l0.Links aC.2.2.2,own b1 26 (dP l0 aC),iL p0.aU au.1,iL p0.Routes au.2.1,iL p0.Lines au.2.2.1,iL p0.Changes au.2.2.2.1,iL p0.Turns au.2.2.2.2.1,iL p0.bq au.2.2.2.2.2.1,iL p0.bg au.2.2.2.2.2.2,own b2 35 (gZ p0 au),ah 22 FB yK,own b6 112 [sL FB yK],gL 3 iC]) sS rI ?_
  clear hM;rintro Aq ⟨yK,zV⟩ FB hM KL4 hL4;dsimp only[MH] at hM ⊢;refine sr ?_;refine oe cO ?_;refine on ?_;refine aG fun K28 Gv=>?_;refine cc rfl hM (fun EK hM=>?_) (fun EK hM=>?_)
  · have akb:=of_decide_eq_true EK;refine aX (Gv _ _ ?_);clear Gv;refine jn (SR (ak.R (List Str))) y (k:=ML Aq zV) (fun Ms SQ=>[(2,eP b1),(3,eP b2),(6,eP b6),(76,eS au.2.2.1 p0.Lines),(77,eI (p0.Lines.length:Int)),(78,eI (tL:Int)),(101,eS (au.2.2.1.es (tL:Int).toNat) x31.bL),(102,eI (x31.bL.length:Int)),(103,eI (zV:Int))]) (fun Ms SQ=>[iL l0.aM aC.1,iL l0.aV aC.2.1,iL l0.Sections aC.2.2.1,iL l0.Links aC.2.2.2,own b1 26 (dP l0 aC),iL p0.aU au.1,iL p0.Routes au.2.1,iL p0.Lines au.2.2.1,iL p0.Changes au.2.2.2.1,iL p0.Turns au.2.2.2.2.1,iL p0.bq au.2.2.2.2.2.1,iL p0.bg au.2.2.2.2.2.2,own b2 35 (gZ p0 au),ah 22 SQ Ms,own b6 112 [sL SQ Ms],gL 3 iC]) ?_ ?_
    ·intro KJ5 Gq;refine bF ?_;refine sr ?_;obtain⟨lH,GL,hM⟩:=bind_some hM;refine oe (bI (xs:=x31.bL) 4 ((Sk.elem (Sk.dW (α:=List Line) (r:=au.2.2.1) (x:=p0.Lines) hA) hx32)).kn (iS GL)) ?_;refine oe (fO (m:=4) (i:=(zV:Int)) (xs:=x31.bL) (y:=lH) (l:=(wG lH)) 0 ((Sk.elem (Sk.dW (α:=List Line) (r:=au.2.2.1) (x:=p0.Lines) hA) hx32)).kn (fun _=>GL)) ?_;refine oA rfl fun Ao=>?_;refine oS Ao (wG lH) ?_;refine on ?_;refine sr ?_;refine oe (aD 3) ?_;refine oe (aJ (b:=Ao)) ?_;refine oe iy ?_;refine on ?_;refine cc rfl hM (fun Y8 hM=>?_) (fun Y8 hM=>?_)
     ·refine iV [own Ao 58 (wG lH),iL l0.aM aC.1,iL l0.aV aC.2.1,iL l0.Sections aC.2.2.1,iL l0.Links aC.2.2.2,own b1 26 (dP l0 aC),iL p0.aU au.1,iL p0.Routes au.2.1,iL p0.Lines au.2.2.1,iL p0.Changes au.2.2.2.1,iL p0.Turns au.2.2.2.2.1,iL p0.bq au.2.2.2.2.2.1,iL p0.bg au.2.2.2.2.2.2,own b2 35 (gZ p0 au),ah 22 FB yK,own b6 112 [sL FB yK],gL 3 iC] 15 ?_;refine aF 0 rfl aH ?_;refine aF 1 rfl (qo (ti:=3) (s:=(⟨[114,105,100,101]⟩:Str))) ?_;refine aF 2 rfl (aD 0) ?_
      refine aF 3 rfl (aJ (b:=Ao)) ?_;refine aF 4 rfl (uQ (ts:=9) (i:=lH.aQ)) ?_;refine aF 5 rfl (aD 1) ?_;refine aF 6 rfl (aJ (b:=Ao)) ?_;refine aF 7 rfl (uQ (ts:=9) (i:=lH.Extra)) ?_;refine aF 8 rfl (aD 2) ?_;refine aF 9 rfl (aJ (b:=Ao)) ?_;refine aF 10 rfl (aD 3) ?_;refine aF 11 rfl (aJ (b:=Ao)) ?_;obtain⟨sK,hy47,hM⟩:=bind_some hM;refine dA 12 rfl (sV (fun hs=>aaI _ _ lH.Min lH.Max sK hy47 (bC hs) (Chunk.mono _ _ _ _ (fun _ h=> .inl h) ((hA:Has _ (gL 3 iC)).φ hs))) ⟨rI,?_⟩);refine aF 13 rfl (qo (ti:=3) (s:=sK)) ?_;refine dA 14 rfl (eX (α:=Any) 20 (fun _=>()) ([(Any.s (⟨[114,105,100,101]⟩:Str)),(Any.i lH.aQ),(Any.i lH.Extra),(Any.s sK)]:List Any) oF (fun r48=>⟨rI,?_⟩));refine rF (fun w hm=>hm.freeze (r:=r48) uA) ?_;obtain⟨FZ,U0,hM⟩:=bind_some hM;refine iU rfl (fq sA (fun S w hs hP=>Fq _ w b6 (kC.mk yK) FB ([(Any.s (⟨[114,105,100,101]⟩:Str)),(Any.i lH.aQ),(Any.i lH.Extra),(Any.s sK)]:List Any) r48 FZ U0 hP (kI hs) ((hA:Has _ (gL 3 iC)).φ hs)) (fun r51=>?_));dsimp only[cA,nA];refine iR (Gq r51 hM sS rI)
     refine aZ ?_;refine om ?_;refine oe (qo (ti:=3) (s:=(⟨[114,105,100,101]⟩:Str))) ?_;refine oe (aD 0) ?_;refine oe (aJ (b:=Ao)) ?_;refine oe (uQ (ts:=9) (i:=lH.aQ)) ?_;refine oe (aD 1) ?_;refine oe (aJ (b:=Ao)) ?_;refine oe (uQ (ts:=9) (i:=lH.Extra)) ?_;refine bn (eX (α:=Any) 20 (fun _=>()) ([(Any.s (⟨[114,105,100,101]⟩:Str)),(Any.i lH.aQ),(Any.i lH.Extra)]:List Any) oF (fun Hw=>?_));refine rQ (fun w hm=>hm.freeze (r:=Hw) uA) ?_;obtain⟨pK,P6,hM⟩:=bind_some hM;refine bn (fq sA (fun S w hs hP=>Fq _ w b6 (kC.mk yK) FB ([(Any.s (⟨[114,105,100,101]⟩:Str)),(Any.i lH.aQ),(Any.i lH.Extra)]:List Any) Hw pK P6 hP (kI hs) ((hA:Has _ (gL 3 iC)).φ hs)) (fun r55=>?_));dsimp only[cA,nA];refine bf (Gq r55 hM sS rI)
    clear hM;rintro Ms SQ hM;dsimp only[ML] at hM ⊢;refine aZ ?_;refine oe (dH (hr:=fun _=>by unfold d9;omega)) ?_;refine om ?_;refine bf (hL4 SQ hM sS rI)
  refine dL (Gs _ _ ?_);clear Gs;dsimp only[aeY] at hM;refine aZ ?_;refine oe (dH (hr:=fun _=>by unfold d9;omega)) ?_;refine om ?_;refine bf (hL3 FB hM sS rI)
 refine dL (rZ _ _ ?_);clear rZ;dsimp only[MK] at hM;refine aG fun K31 Gx=>?_;refine sr ?_;refine oe (aD 4) ?_;refine oe (aJ (b:=b2)) ?_;refine iO (fun w hm=>Kn.len (kG p0.Changes au.2.2.2.1) hm) fun aqJ=>?_;refine oe bJ ?_;refine om ?_;refine on ?_;refine bF ?_;refine lp Ii hM (fun (AU,Iq) Ij=>[(2,eP b1),(3,eP b2),(6,eP b6),(139,eS au.2.2.2.1 p0.Changes),(140,eI (p0.Changes.length:Int)),(141,eI (Iq:Int))]) (fun (AU,Iq) Ij=>[iL l0.aM aC.1,iL l0.aV aC.2.1,iL l0.Sections aC.2.2.1,iL l0.Links aC.2.2.2,own b1 26 (dP l0 aC),iL p0.aU au.1,iL p0.Routes au.2.1,iL p0.Lines au.2.2.1,iL p0.Changes au.2.2.2.1,iL p0.Turns au.2.2.2.2.1,iL p0.bq au.2.2.2.2.2.1,iL p0.bg au.2.2.2.2.2.2,own b2 35 (gZ p0 au),ah 22 Ij AU,own b6 112 [sL Ij AU],gL 3 iC]) sS rI ?_
 clear hM;rintro OO ⟨AU,Iq⟩ Ij hM KL5 hL5;dsimp only[Rm] at hM ⊢;refine sr ?_;refine oe cO ?_;refine on ?_;refine aG fun K34 Gz=>?_;refine cc rfl hM (fun UN hM=>?_) (fun UN hM=>?_)
 ·have aqv:=of_decide_eq_true UN;refine aX (Gz _ _ ?_);clear Gz;refine aG fun K35 GA=>?_;refine bF ?_;refine sr ?_;obtain⟨pJ,adQ,hM⟩:=bind_some hM;refine oe (bI (xs:=p0.Changes) 7 (kG p0.Changes au.2.2.2.1) (iS adQ)) ?_;refine oe (fO (m:=7) (i:=(Iq:Int)) (xs:=p0.Changes) (y:=pJ) (l:=(JM pJ)) 0 (kG p0.Changes au.2.2.2.1) (fun _=>adQ)) ?_;refine oA rfl fun Ep=>?_;refine oS Ep (JM pJ) ?_;refine on ?_;refine iV [own Ep 79 (JM pJ),iL l0.aM aC.1,iL l0.aV aC.2.1,iL l0.Sections aC.2.2.1,iL l0.Links aC.2.2.2,own b1 26 (dP l0 aC),iL p0.aU au.1,iL p0.Routes au.2.1,iL p0.Lines au.2.2.1,iL p0.Changes au.2.2.2.1,iL p0.Turns au.2.2.2.2.1,iL p0.bq au.2.2.2.2.2.1,iL p0.bg au.2.2.2.2.2.2,own b2 35 (gZ p0 au),ah 22 Ij AU,own b6 112 [sL Ij AU],gL 3 iC] 34 ?_
  refine aF 0 rfl aH ?_;refine aF 1 rfl (qo (ti:=3) (s:=(⟨[99,104,97,110,103,101]⟩:Str))) ?_;refine aF 2 rfl (aD 3) ?_;refine aF 3 rfl (aJ (b:=b2)) ?_;refine aF 4 rfl (aD 0) ?_;refine aF 5 rfl (aJ (b:=Ep)) ?_;obtain⟨CS,PV,hM⟩:=bind_some hM;refine aF 6 rfl (bI (xs:=p0.Lines) 4 (kG p0.Lines au.2.2.1) (iS PV)) ?_;refine aF 7 rfl (aD 0) ?_;refine aF 8 rfl (dh (i:=pJ.jk) (xs:=p0.Lines) (y:=CS) 0 (kG p0.Lines au.2.2.1) (fun _=>PV)) ?_;refine aF 9 rfl (qo (ti:=3) (s:=CS.Name)) ?_;refine aF 10 rfl (aD 1) ?_;refine aF 11 rfl (aJ (b:=Ep)) ?_;refine aF 12 rfl (uQ (ts:=9) (i:=pJ.kP)) ?_;refine aF 13 rfl (aD 3) ?_;refine aF 14 rfl (aJ (b:=b2)) ?_;refine aF 15 rfl (aD 2) ?_;refine aF 16 rfl (aJ (b:=Ep)) ?_;obtain⟨N9,adS,hM⟩:=bind_some hM;refine aF 17 rfl (bI (xs:=p0.Lines) 4 (kG p0.Lines au.2.2.1) (iS adS)) ?_;refine aF 18 rfl (aD 0) ?_;refine aF 19 rfl (dh (i:=pJ.kg) (xs:=p0.Lines) (y:=N9) 0 (kG p0.Lines au.2.2.1) (fun _=>adS)) ?_;refine aF 20 rfl (qo (ti:=3) (s:=N9.Name)) ?_;refine aF 21 rfl (aD 3) ?_;refine aF 22 rfl (aJ (b:=Ep)) ?_
  refine aF 23 rfl (uQ (ts:=9) (i:=pJ.mX)) ?_;refine aF 24 rfl (aD 4) ?_;refine aF 25 rfl (aJ (b:=Ep)) ?_;refine aF 26 rfl (aD 5) ?_;refine aF 27 rfl (aJ (b:=Ep)) ?_;refine aF 30 rfl (aD 6) ?_;refine aF 31 rfl (aJ (b:=Ep)) ?_;refine aF 32 rfl (uQ (ts:=9) (i:=pJ.Weight)) ?_;obtain⟨pO,ZC,hM⟩:=bind_some hM;refine dA 28 rfl (sV (fun hs=>aaI _ _ pJ.Min pJ.Max pO ZC (bC hs) (Chunk.mono _ _ _ _ (fun _ h=> .inl h) ((hA:Has _ (gL 3 iC)).φ hs))) ⟨rI,?_⟩);refine aF 29 rfl (qo (ti:=3) (s:=pO)) ?_;refine dA 33 rfl (eX (α:=Any) 20 (fun _=>()) ([(Any.s (⟨[99,104,97,110,103,101]⟩:Str)),(Any.s CS.Name),(Any.i pJ.kP),(Any.s N9.Name),(Any.i pJ.mX),(Any.s pO),(Any.i pJ.Weight)]:List Any) oF (fun r67=>⟨rI,?_⟩));refine rF (fun w hm=>hm.freeze (r:=r67) uA) ?_;obtain⟨Ai,ZE,hM⟩:=bind_some hM;refine iU rfl (fq sA (fun S w hs hP=>Fq _ w b6 (kC.mk AU) Ij ([(Any.s (⟨[99,104,97,110,103,101]⟩:Str)),(Any.s CS.Name),(Any.i pJ.kP),(Any.s N9.Name),(Any.i pJ.mX),(Any.s pO),(Any.i pJ.Weight)]:List Any) r67 Ai ZE hP (kI hs) ((hA:Has _ (gL 3 iC)).φ hs)) (fun r70=>?_));dsimp only[cA,nA];refine iR (GA _ _ ?_);clear GA;refine aZ ?_;refine oe (dH (hr:=fun _=>by unfold d9;omega)) ?_
  refine om ?_;refine bf (hL5 r70 hM sS rI)
 refine dL (Gx _ _ ?_);clear Gx;dsimp only[MN] at hM;refine aG fun K37 GD=>?_;refine sr ?_;refine oe (aD 5) ?_;refine oe (aJ (b:=b2)) ?_;refine iO (fun w hm=>Kn.len (kG p0.Turns au.2.2.2.2.1) hm) fun aqK=>?_;refine oe bJ ?_;refine om ?_;refine on ?_;refine bF ?_;refine lp Ij hM (fun (AV,Ir) Ik=>[(2,eP b1),(3,eP b2),(6,eP b6),(182,eS au.2.2.2.2.1 p0.Turns),(183,eI (p0.Turns.length:Int)),(184,eI (Ir:Int))]) (fun (AV,Ir) Ik=>[iL l0.aM aC.1,iL l0.aV aC.2.1,iL l0.Sections aC.2.2.1,iL l0.Links aC.2.2.2,own b1 26 (dP l0 aC),iL p0.aU au.1,iL p0.Routes au.2.1,iL p0.Lines au.2.2.1,iL p0.Changes au.2.2.2.1,iL p0.Turns au.2.2.2.2.1,iL p0.bq au.2.2.2.2.2.1,iL p0.bg au.2.2.2.2.2.2,own b2 35 (gZ p0 au),ah 22 Ik AV,own b6 112 [sL Ik AV],gL 3 iC]) sS rI ?_
 clear hM;rintro acA ⟨AV,Ir⟩ Ik hM KL6 hL6;dsimp only[Rn] at hM ⊢;refine sr ?_;refine oe cO ?_;refine on ?_;refine aG fun K40 adl=>?_;refine cc rfl hM (fun ady hM=>?_) (fun ady hM=>?_)
 ·have aqx:=of_decide_eq_true ady;refine aX (adl _ _ ?_);clear adl;refine aG fun K41 Pn=>?_;refine bF ?_;refine sr ?_;obtain⟨Af,adV,hM⟩:=bind_some hM;refine oe (bI (xs:=p0.Turns) 4 (kG p0.Turns au.2.2.2.2.1) (iS adV)) ?_;refine oe (fO (m:=4) (i:=(Ir:Int)) (xs:=p0.Turns) (y:=Af) (l:=(yL Af)) 0 (kG p0.Turns au.2.2.2.2.1) (fun _=>adV)) ?_;refine oA rfl fun KS=>?_;refine oS KS (yL Af) ?_;refine on ?_;refine iV [own KS 94 (yL Af),iL l0.aM aC.1,iL l0.aV aC.2.1,iL l0.Sections aC.2.2.1,iL l0.Links aC.2.2.2,own b1 26 (dP l0 aC),iL p0.aU au.1,iL p0.Routes au.2.1,iL p0.Lines au.2.2.1,iL p0.Changes au.2.2.2.1,iL p0.Turns au.2.2.2.2.1,iL p0.bq au.2.2.2.2.2.1,iL p0.bg au.2.2.2.2.2.2,own b2 35 (gZ p0 au),ah 22 Ik AV,own b6 112 [sL Ik AV],gL 3 iC] 25 ?_
  refine aF 0 rfl aH ?_;refine aF 1 rfl (qo (ti:=3) (s:=(⟨[116,117,114,110]⟩:Str))) ?_;refine aF 2 rfl (aD 3) ?_;refine aF 3 rfl (aJ (b:=b2)) ?_;refine aF 4 rfl (aD 0) ?_;refine aF 5 rfl (aJ (b:=KS)) ?_;obtain⟨Oa,adW,hM⟩:=bind_some hM;refine aF 6 rfl (bI (xs:=p0.Lines) 4 (kG p0.Lines au.2.2.1) (iS adW)) ?_;refine aF 7 rfl (aD 0) ?_;refine aF 8 rfl (dh (i:=Af.From) (xs:=p0.Lines) (y:=Oa) 0 (kG p0.Lines au.2.2.1) (fun _=>adW)) ?_;refine aF 9 rfl (qo (ti:=3) (s:=Oa.Name)) ?_;refine aF 10 rfl (aD 3) ?_;refine aF 11 rfl (aJ (b:=b2)) ?_;refine aF 12 rfl (aD 1) ?_;refine aF 13 rfl (aJ (b:=KS)) ?_;obtain⟨yg,GN,hM⟩:=bind_some hM;refine aF 14 rfl (bI (xs:=p0.Lines) 4 (kG p0.Lines au.2.2.1) (iS GN)) ?_;refine aF 15 rfl (aD 0) ?_;refine aF 16 rfl (dh (i:=Af.To) (xs:=p0.Lines) (y:=yg) 0 (kG p0.Lines au.2.2.1) (fun _=>GN)) ?_;refine aF 17 rfl (qo (ti:=3) (s:=yg.Name)) ?_;refine aF 18 rfl (aD 2) ?_;refine aF 19 rfl (aJ (b:=KS)) ?_;refine aF 20 rfl (aD 3) ?_;refine aF 21 rfl (aJ (b:=KS)) ?_;obtain⟨rV,P8,hM⟩:=bind_some hM;refine dA 22 rfl (sV (fun hs=>aaI _ _ Af.Min Af.Max rV P8 (bC hs) (Chunk.mono _ _ _ _ (fun _ h=> .inl h) ((hA:Has _ (gL 3 iC)).φ hs))) ⟨rI,?_⟩)
  refine aF 23 rfl (qo (ti:=3) (s:=rV)) ?_;refine dA 24 rfl (eX (α:=Any) 20 (fun _=>()) ([(Any.s (⟨[116,117,114,110]⟩:Str)),(Any.s Oa.Name),(Any.s yg.Name),(Any.s rV)]:List Any) oF (fun r82=>⟨rI,?_⟩));refine rF (fun w hm=>hm.freeze (r:=r82) uA) ?_;obtain⟨y83,alm,hM⟩:=bind_some hM;refine iU rfl (fq sA (fun S w hs hP=>Fq _ w b6 (kC.mk AV) Ik ([(Any.s (⟨[116,117,114,110]⟩:Str)),(Any.s Oa.Name),(Any.s yg.Name),(Any.s rV)]:List Any) r82 y83 alm hP (kI hs) ((hA:Has _ (gL 3 iC)).φ hs)) (fun VK=>?_));dsimp only[cA,nA];refine iR (Pn _ _ ?_);clear Pn;refine aZ ?_;refine oe (dH (hr:=fun _=>by unfold d9;omega)) ?_;refine om ?_;refine bf (hL6 VK hM sS rI)
 refine dL (GD _ _ ?_);clear GD;dsimp only[MO] at hM;refine aG fun K43 adn=>?_;refine sr ?_;refine oe (aD 6) ?_;refine oe (aJ (b:=b2)) ?_;refine iO (fun w hm=>Kn.len (kG p0.bq au.2.2.2.2.2.1) hm) fun aqL=>?_;refine oe bJ ?_;refine om ?_;refine on ?_;refine bF ?_;refine lp Ik hM (fun (AX,Iu) Il=>[(2,eP b1),(3,eP b2),(6,eP b6),(216,eS au.2.2.2.2.2.1 p0.bq),(217,eI (p0.bq.length:Int)),(218,eI (Iu:Int))]) (fun (AX,Iu) Il=>[iL l0.aM aC.1,iL l0.aV aC.2.1,iL l0.Sections aC.2.2.1,iL l0.Links aC.2.2.2,own b1 26 (dP l0 aC),iL p0.aU au.1,iL p0.Routes au.2.1,iL p0.Lines au.2.2.1,iL p0.Changes au.2.2.2.1,iL p0.Turns au.2.2.2.2.1,iL p0.bq au.2.2.2.2.2.1,iL p0.bg au.2.2.2.2.2.2,own b2 35 (gZ p0 au),ah 22 Il AX,own b6 112 [sL Il AX],gL 3 iC]) sS rI ?_
 clear hM;rintro acB ⟨AX,Iu⟩ Il hM KL7 hL7;dsimp only[Ro] at hM ⊢;refine sr ?_;refine oe cO ?_;refine on ?_;refine aG fun K46 ado=>?_;refine cc rfl hM (fun adz hM=>?_) (fun adz hM=>?_)
 ·have aqy:=of_decide_eq_true adz;refine aX (ado _ _ ?_);clear ado;refine aG fun K47 adp=>?_;refine bF ?_;refine sr ?_;obtain⟨x88,adZ,hM⟩:=bind_some hM;refine oe (bI (xs:=p0.bq) 5 (kG p0.bq au.2.2.2.2.2.1) (iS adZ)) ?_;refine oe (fO (m:=5) (i:=(Iu:Int)) (xs:=p0.bq) (y:=x88) (l:=(JO x88)) 0 (kG p0.bq au.2.2.2.2.2.1) (fun _=>adZ)) ?_;refine oA rfl fun I5=>?_;refine oS I5 (JO x88) ?_;refine on ?_;refine iV [own I5 84 (JO x88),iL l0.aM aC.1,iL l0.aV aC.2.1,iL l0.Sections aC.2.2.1,iL l0.Links aC.2.2.2,own b1 26 (dP l0 aC),iL p0.aU au.1,iL p0.Routes au.2.1,iL p0.Lines au.2.2.1,iL p0.Changes au.2.2.2.1,iL p0.Turns au.2.2.2.2.1,iL p0.bq au.2.2.2.2.2.1,iL p0.bg au.2.2.2.2.2.2,own b2 35 (gZ p0 au),ah 22 Il AX,own b6 112 [sL Il AX],gL 3 iC] 28 ?_
  refine aF 0 rfl aH ?_;refine aF 1 rfl (qo (ti:=3) (s:=(⟨[115,121,110,99]⟩:Str))) ?_;refine aF 2 rfl (aD 3) ?_;refine aF 3 rfl (aJ (b:=b2)) ?_;refine aF 4 rfl (aD 0) ?_;refine aF 5 rfl (aJ (b:=I5)) ?_;obtain⟨x91,ad1,hM⟩:=bind_some hM;refine aF 6 rfl (bI (xs:=p0.Lines) 4 (kG p0.Lines au.2.2.1) (iS ad1)) ?_;refine aF 7 rfl (aD 0) ?_;refine aF 8 rfl (dh (i:=x88.mD) (xs:=p0.Lines) (y:=x91) 0 (kG p0.Lines au.2.2.1) (fun _=>ad1)) ?_;refine aF 9 rfl (qo (ti:=3) (s:=x91.Name)) ?_;refine aF 10 rfl (aD 1) ?_;refine aF 11 rfl (aJ (b:=I5)) ?_;refine aF 12 rfl (uQ (ts:=9) (i:=x88.lV)) ?_;refine aF 13 rfl (aD 3) ?_;refine aF 14 rfl (aJ (b:=b2)) ?_;refine aF 15 rfl (aD 2) ?_;refine aF 16 rfl (aJ (b:=I5)) ?_;obtain⟨x93,ad2,hM⟩:=bind_some hM;refine aF 17 rfl (bI (xs:=p0.Lines) 4 (kG p0.Lines au.2.2.1) (iS ad2)) ?_;refine aF 18 rfl (aD 0) ?_;refine aF 19 rfl (dh (i:=x88.mQ) (xs:=p0.Lines) (y:=x93) 0 (kG p0.Lines au.2.2.1) (fun _=>ad2)) ?_;refine aF 20 rfl (qo (ti:=3) (s:=x93.Name)) ?_;refine aF 21 rfl (aD 3) ?_;refine aF 22 rfl (aJ (b:=I5)) ?_
  refine aF 23 rfl (uQ (ts:=9) (i:=x88.mE)) ?_;refine aF 24 rfl (aD 4) ?_;refine aF 25 rfl (aJ (b:=I5)) ?_;refine aF 26 rfl (uQ (ts:=9) (i:=x88.Offset)) ?_;refine dA 27 rfl (eX (α:=Any) 20 (fun _=>()) ([(Any.s (⟨[115,121,110,99]⟩:Str)),(Any.s x91.Name),(Any.i x88.lV),(Any.s x93.Name),(Any.i x88.mE),(Any.i x88.Offset)]:List Any) oF (fun Ke=>⟨rI,?_⟩));refine rF (fun w hm=>hm.freeze (r:=Ke) uA) ?_;obtain⟨y96,ZG,hM⟩:=bind_some hM;refine iU rfl (fq sA (fun S w hs hP=>Fq _ w b6 (kC.mk AX) Il ([(Any.s (⟨[115,121,110,99]⟩:Str)),(Any.s x91.Name),(Any.i x88.lV),(Any.s x93.Name),(Any.i x88.mE),(Any.i x88.Offset)]:List Any) Ke y96 ZG hP (kI hs) ((hA:Has _ (gL 3 iC)).φ hs)) (fun r98=>?_));dsimp only[cA,nA];refine iR (adp _ _ ?_);clear adp;refine aZ ?_;refine oe (dH (hr:=fun _=>by unfold d9;omega)) ?_;refine om ?_;refine bf (hL7 r98 hM sS rI)
 refine dL (adn _ _ ?_);clear adn;dsimp only[MP] at hM;refine aG fun K49 adq=>?_;refine sr ?_;refine oe (aD 7) ?_;refine oe (aJ (b:=b2)) ?_;refine iO (fun w hm=>Kn.len (kG p0.bg au.2.2.2.2.2.2) hm) fun aqM=>?_;refine oe bJ ?_;refine om ?_;refine on ?_;refine bF ?_;refine lp Il hM (fun (zI,Iw) Im=>[(2,eP b1),(6,eP b6),(253,eS au.2.2.2.2.2.2 p0.bg),(254,eI (p0.bg.length:Int)),(255,eI (Iw:Int))]) (fun (zI,Iw) Im=>[iL l0.aM aC.1,iL l0.aV aC.2.1,iL l0.Sections aC.2.2.1,iL l0.Links aC.2.2.2,own b1 26 (dP l0 aC),ah 22 Im zI,own b6 112 [sL Im zI],iL p0.bg au.2.2.2.2.2.2,gL 3 iC]) sS rI ?_;clear hM;rintro acC ⟨zI,Iw⟩ Im hM KL8 hL8;dsimp only[Rp] at hM ⊢;refine sr ?_
 refine oe cO ?_;refine on ?_;refine aG fun K52 adr=>?_;refine cc rfl hM (fun adv hM=>?_) (fun adv hM=>?_)
 ·have aqm:=of_decide_eq_true adv;refine aX (adr _ _ ?_);clear adr;refine aG fun K53 ads=>?_;refine bF ?_;refine sr ?_;obtain⟨x101,hx102,hM⟩:=bind_some hM;refine oe (bI (xs:=p0.bg) 3 (kG p0.bg au.2.2.2.2.2.2) (iS hx102)) ?_;refine oe (fO (m:=3) (i:=(Iw:Int)) (xs:=p0.bg) (y:=x101) (l:=(JN x101)) 0 (kG p0.bg au.2.2.2.2.2.2) (fun _=>hx102)) ?_;refine oA rfl fun Oo=>?_;refine oS Oo (JN x101) ?_;refine on ?_;refine iV [own Oo 86 (JN x101),iL l0.aM aC.1,iL l0.aV aC.2.1,iL l0.Sections aC.2.2.1,iL l0.Links aC.2.2.2,own b1 26 (dP l0 aC),ah 22 Im zI,own b6 112 [sL Im zI],iL p0.bg au.2.2.2.2.2.2,gL 3 iC] 20 ?_;refine aF 0 rfl aH ?_;refine aF 1 rfl (qo (ti:=3) (s:=(⟨[100,101,109,97,110,100]⟩:Str))) ?_
  refine aF 2 rfl (aD 0) ?_;refine aF 3 rfl (aJ (b:=b1)) ?_;refine aF 4 rfl (aD 0) ?_;refine aF 5 rfl (aJ (b:=Oo)) ?_;obtain⟨x104,adG,hM⟩:=bind_some hM;refine aF 6 rfl (bI (xs:=l0.aM) 1 (kG l0.aM aC.1) (iS adG)) ?_;refine aF 7 rfl (dh (i:=x101.From) (xs:=l0.aM) (y:=x104) 0 (kG l0.aM aC.1) (fun _=>adG)) ?_;refine aF 8 rfl (qo (ti:=3) (s:=x104)) ?_;refine aF 9 rfl (aD 0) ?_;refine aF 10 rfl (aJ (b:=b1)) ?_;refine aF 11 rfl (aD 1) ?_;refine aF 12 rfl (aJ (b:=Oo)) ?_;obtain⟨N8,adH,hM⟩:=bind_some hM;refine aF 13 rfl (bI (xs:=l0.aM) 1 (kG l0.aM aC.1) (iS adH)) ?_;refine aF 14 rfl (dh (i:=x101.To) (xs:=l0.aM) (y:=N8) 0 (kG l0.aM aC.1) (fun _=>adH)) ?_;refine aF 15 rfl (qo (ti:=3) (s:=N8)) ?_;refine aF 16 rfl (aD 2) ?_;refine aF 17 rfl (aJ (b:=Oo)) ?_;refine aF 18 rfl (uQ (ts:=9) (i:=x101.Weight)) ?_;refine dA 19 rfl (eX (α:=Any) 20 (fun _=>()) ([(Any.s (⟨[100,101,109,97,110,100]⟩:Str)),(Any.s x104),(Any.s N8),(Any.i x101.Weight)]:List Any) oF (fun aaR=>⟨rI,?_⟩));refine rF (fun w hm=>hm.freeze (r:=aaR) uA) ?_;obtain⟨Ag,Zt,hM⟩:=bind_some hM
  refine iU rfl (fq sA (fun S w hs hP=>Fq _ w b6 (kC.mk zI) Im ([(Any.s (⟨[100,101,109,97,110,100]⟩:Str)),(Any.s x104),(Any.s N8),(Any.i x101.Weight)]:List Any) aaR Ag Zt hP (kI hs) ((hA:Has _ (gL 3 iC)).φ hs)) (fun afe=>?_));dsimp only[cA,nA];refine iR (ads _ _ ?_);clear ads;refine aZ ?_;refine oe (dH (hr:=fun _=>by unfold d9;omega)) ?_;refine om ?_;refine bf (hL8 afe hM sS rI)
 refine dL (adq _ _ ?_);clear adq;dsimp only[aeZ] at hM;refine aO ?_;refine oe bY ?_;refine oe (aD 0) ?_;refine oe (aJ (b:=b6)) ?_;obtain⟨y112,hy113,hM⟩:=bind_some hM;refine cv (fun hs=>aqd _ _ zI Im y112 hy113 (bC hs) (kT hs)) ?_;refine oa ?_;refine aP ?_;exact aW (vH hM)
end Go.Proofs.YtcalibhfgdncaaaGreatDoor

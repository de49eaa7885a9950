/- Functions: models, proved of the code. -/
import Derived.Test.YtcalibhfgdncaaaGreatDoorOf
import Derived.Test.YtcalibhfgdncaaaGreatDoorRk
namespace Go.Proofs.YtcalibhfgdncaaaGreatDoor
open Go.Dc Go.RowKit
attribute [local irreducible] CW OW AW AZ Ev
set_option maxHeartbeats 0
set_option maxRecDepth 10000
set_option linter.all false
def DV(Yp:Str)(n0:Int):Option Str:=
 aO (aX ((n0.tmod 10)+1))<|
 (ji (⟨[48,49,50,51,52,53,54,55,56,57]⟩:Str) (n0.tmod 10) ((n0.tmod 10)+1)).bind fun q2=>
 (dM Yp q2).bind fun q4=>
 some q4
theorem LK(S:aW)(w:World)(Yp:Str)(n0:Int)(y:Str)(hM:DV Yp n0=some y)(hS:sB S w):
  Calls Tryz.prog 72 #[.string Yp.ba,vI n0] w (bM w (.string y.ba)):=by
 refine bF (args:=[_,_]) Tryz.func72 rfl ((pre_nil hS).start) rfl ?_;unfold DV at hM;refine aJ ?_;refine aR ?_;refine om ?_;refine oe Au ?_;refine om ?_;refine oe Au ?_;refine oP hM fun hM=>?_;obtain⟨q2,hq3,hM⟩:=bind_some hM;refine oe (vZ (ol:=some (.i64,(n0.tmod 10))) (oh:=some (.i64,((n0.tmod 10)+1))) (fun _=>hq3)) ?_;obtain⟨q4,SV,hM⟩:=bind_some hM;refine oe (eB (fun _=>SV)) ?_;refine aN ?_;exact aF (aZ hM)
def Ol(s0:bN)(OU:Str)(QM:Int):Option (Section×Int):=
 (jY s0 9).bind fun y2=>
 aO (aX (2+y2.1))<|
 (jY (bN.mk s0.l y2.2) 7).bind fun y6=>
 aO (aX (5000*y6.1))<|
 aO (aX (5000+(5000*y6.1)))<|
 (jY (bN.mk s0.l y6.2) 21).bind fun dR=>
 aO (aX (dR.1-10))<|
 some ((Section.mk OU (2+y2.1) (5000+(5000*y6.1)) (dR.1-10) QM),dR.2)
theorem ahZ(S:aW)(w:World)(iE:Nat)(s0:bN)(dh:ah.R bN)(OU:Str)(QM:Int)(y:Section×Int)(hM:Ol s0 OU QM=some y)(hP:Pre S [own iE 136 (D8 s0 dh)] w)(Gi:ah.ok (α:=List Int) S w dh s0.l):
  Calls Tryz.prog 73 #[vP iE,.string OU.ba,vI QM] w (Post (β:=Unit) S [own iE 136 (D8 s0 dh)] (fun g=> .agg (Xz y.1)) (fun g=>[own iE 136 [sL dh s0.l,vI y.2]]) w):=by
 refine bF (args:=[_,_,_]) Tryz.func73 rfl (hP.start |>.bG Gi) rfl ?_;unfold Ol at hM;refine sr ?_;refine oA rfl fun b1=>?_;refine on ?_;refine aR ?_;refine om ?_;obtain⟨y2,hy3,hM⟩:=bind_some hM;refine bf (fu sA (fun S w hs hP=>iI _ w iE s0 dh 9 y2 hy3 hP (kM hs)) fG (fun r4=>?_));dsimp only[cA,nA];refine oP hM fun hM=>?_;refine om ?_;obtain⟨y6,nS,hM⟩:=bind_some hM;refine bf (fu sA (fun S w hs hP=>iI _ w iE (bN.mk s0.l y2.2) dh 7 y6 nS hP (kM hs)) fG (fun r8=>?_));dsimp only[cA,nA];obtain⟨hI9,hM⟩:=bQ hM;refine oe (vw (hr:=fun hg=>dU hI9)) ?_;refine oP hM fun hM=>?_;refine om ?_;obtain⟨dR,uy,hM⟩:=bind_some hM;refine bf (fu sA (fun S w hs hP=>iI _ w iE (bN.mk s0.l y6.2) dh 21 dR uy hP (kM hs)) fG (fun wU=>?_));dsimp only[cA,nA];refine oN hM fun hM=>?_;refine om ?_;refine oe (dO [.string OU.ba,vI (2+y2.1),vI (5000+(5000*y6.1)),vI (dR.1-10),vI QM]) ?_;refine oS b1 [.string OU.ba,vI (2+y2.1),vI (5000+(5000*y6.1)),vI (dR.1-10),vI QM] ?_;refine on ?_;obtain rfl:=some_inj hM;refine aF (eG (fun w hm=>bR () hm rfl))
def Om(b0:dB)(x0:Section):Option (Int×(List Section)):=
 aO (decide ((b0.l.Sections.length+([x0]:List Section).length)*48≤140737488355328))<|
 aO (aX (((b0.l.Sections++([x0]:List Section)).length:Int)-1))<|
 some ((((b0.l.Sections++([x0]:List Section)).length:Int)-1),(b0.l.Sections++([x0]:List Section)))
theorem ah0(S:aW)(w:World)(kR:Nat)(b0:dB)(aV:ah.R dB)(x0:Section)(y:Int×(List Section))(hM:Om b0 x0=some y)(hP:Pre S [own kR 76 (Ea b0 aV),aj 9 aV.1.1 b0.l.aT,aj 9 aV.1.2.1 b0.l.bE,aj 81 aV.1.2.2.1 b0.l.Sections,aj 183 aV.1.2.2.2 b0.l.Links,aj 39 aV.2.1 b0.tracks,aj 39 aV.2.2.1 b0.between,aj 39 aV.2.2.2 b0.jU] w):
  Calls Tryz.prog 74 #[vP kR,.agg (Xz x0)] w (Post (β:=(SR (ah.R Section))) S [own kR 76 (Ea b0 aV),aj 9 aV.1.1 b0.l.aT,aj 9 aV.1.2.1 b0.l.bE,aj 81 aV.1.2.2.1 b0.l.Sections,aj 183 aV.1.2.2.2 b0.l.Links,aj 39 aV.2.1 b0.tracks,aj 39 aV.2.2.1 b0.between,aj 39 aV.2.2.2 b0.jU] (fun g=>vI y.1) (fun g=>[own kR 76 [sL aV.1.1 b0.l.aT,sL aV.1.2.1 b0.l.bE,sL g y.2,sL aV.1.2.2.2 b0.l.Links,sL aV.2.1 b0.tracks,sL aV.2.2.1 b0.between,sL aV.2.2.2 b0.jU],aj 9 aV.1.1 b0.l.aT,aj 9 aV.1.2.1 b0.l.bE,aj 81 g y.2,aj 183 aV.1.2.2.2 b0.l.Links,aj 39 aV.2.1 b0.tracks,aj 39 aV.2.2.1 b0.between,aj 39 aV.2.2.2 b0.jU]) w):=by
 refine bF (args:=[_,_]) Tryz.func74 rfl (hP.start) rfl ?_;unfold Om at hM;refine sr ?_;refine oB (Eb x0) fun b1=>?_;refine aN ?_;refine au fun K2 hK2=>?_;refine kZ [4] 12 ?_;refine zm 0 ?_;refine zm 1 ?_;refine aI 2 rfl dF ?_;refine aI 3 rfl (aY 0) ?_;refine fz 4 2 ?_;refine aI 6 rfl fC ?_;refine cK 7 rfl (fI (α:=Section) 81 (fun _=>()) ([x0]:List Section) oF (fun r2=>⟨rI,?_⟩));obtain⟨hb4,hM⟩:=bQ hM;refine cK 8 rfl (iq (r:=aV.1.2.2.1) (r2:=r2) uR (Kn.aj (e:=81) (r:=r2) hA) oF (of_decide_eq_true hb4) (fun r3=>⟨rI,?_⟩));refine aI 9 rfl dF ?_;refine aI 10 rfl (aY 0) ?_;refine aI 11 rfl (aY 2) ?_;refine iX rfl (sO ?_);refine iW (hK2 _ _ ?_);refine go ?_;refine oN hM fun hM=>?_;refine aN ?_;obtain rfl:=some_inj hM;refine aF (eG (fun w hm=>bR r3 hm rfl))
def LJ(b0:dB)(a0:Int)(c0:Int)(Mv:Int)(Mw:Int):Option (List Link):=
 aO (decide ((b0.l.Links.length+([(Link.mk a0 1 c0 0 Mv Mw)]:List Link).length)*48≤140737488355328))<|
 some (b0.l.Links++([(Link.mk a0 1 c0 0 Mv Mw)]:List Link))
theorem adO(S:aW)(w:World)(kR:Nat)(b0:dB)(aV:ah.R dB)(a0:Int)(c0:Int)(Mv:Int)(Mw:Int)(y:(List Link))(hM:LJ b0 a0 c0 Mv Mw=some y)(hP:Pre S [own kR 76 (Ea b0 aV),aj 9 aV.1.1 b0.l.aT,aj 9 aV.1.2.1 b0.l.bE,aj 81 aV.1.2.2.1 b0.l.Sections,aj 183 aV.1.2.2.2 b0.l.Links,aj 39 aV.2.1 b0.tracks,aj 39 aV.2.2.1 b0.between,aj 39 aV.2.2.2 b0.jU] w):
  Calls Tryz.prog 75 #[vP kR,vI a0,vI c0,vI Mv,vI Mw] w (Post (β:=(SR (ah.R Link))) S [own kR 76 (Ea b0 aV),aj 9 aV.1.1 b0.l.aT,aj 9 aV.1.2.1 b0.l.bE,aj 81 aV.1.2.2.1 b0.l.Sections,aj 183 aV.1.2.2.2 b0.l.Links,aj 39 aV.2.1 b0.tracks,aj 39 aV.2.2.1 b0.between,aj 39 aV.2.2.2 b0.jU] (fun g=> .tuple #[]) (fun g=>[own kR 76 [sL aV.1.1 b0.l.aT,sL aV.1.2.1 b0.l.bE,sL aV.1.2.2.1 b0.l.Sections,sL g y,sL aV.2.1 b0.tracks,sL aV.2.2.1 b0.between,sL aV.2.2.2 b0.jU],aj 9 aV.1.1 b0.l.aT,aj 9 aV.1.2.1 b0.l.bE,aj 81 aV.1.2.2.1 b0.l.Sections,aj 183 g y,aj 39 aV.2.1 b0.tracks,aj 39 aV.2.2.1 b0.between,aj 39 aV.2.2.2 b0.jU]) w):=by
 refine bF (args:=[_,_,_,_,_]) Tryz.func75 rfl (hP.start) rfl ?_;unfold LJ at hM;refine bg ?_;refine go ?_;refine oe (dO [vI a0,vI 1,vI c0,vI 0,vI Mv,vI Mw]) ?_;refine bf (fI (α:=Link) 183 (fun _=>()) ([(Link.mk a0 1 c0 0 Mv Mw)]:List Link) oF (fun r1=>?_));obtain⟨hb3,hM⟩:=bQ hM;refine bf (iq (r:=aV.1.2.2.2) (r2:=r1) uR (Kn.aj (e:=183) (r:=r1) hA) oF (of_decide_eq_true hb3) (fun r2=>?_));refine go ?_;refine kY ?_;obtain rfl:=some_inj hM;refine bq (DW rfl (fun w hm=>bR r2 hm rfl))
def TV(b0:dB):Option (Int×(List Str)):=
 (DV (⟨[80]⟩:Str) (b0.l.bE.length:Int)).bind fun y1=>
 aO (decide ((b0.l.bE.length+([y1]:List Str).length)*16≤140737488355328))<|
 aO (aX (((b0.l.bE++([y1]:List Str)).length:Int)-1))<|
 some ((((b0.l.bE++([y1]:List Str)).length:Int)-1),(b0.l.bE++([y1]:List Str)))
theorem asl(S:aW)(w:World)(kR:Nat)(b0:dB)(aV:ah.R dB)(y:Int×(List Str))(hM:TV b0=some y)(hP:Pre S [own kR 76 (Ea b0 aV),aj 9 aV.1.1 b0.l.aT,aj 9 aV.1.2.1 b0.l.bE,aj 81 aV.1.2.2.1 b0.l.Sections,aj 183 aV.1.2.2.2 b0.l.Links,aj 39 aV.2.1 b0.tracks,aj 39 aV.2.2.1 b0.between,aj 39 aV.2.2.2 b0.jU] w):
  Calls Tryz.prog 133 #[vP kR] w (Post (β:=(SR (ah.R Str))) S [own kR 76 (Ea b0 aV),aj 9 aV.1.1 b0.l.aT,aj 9 aV.1.2.1 b0.l.bE,aj 81 aV.1.2.2.1 b0.l.Sections,aj 183 aV.1.2.2.2 b0.l.Links,aj 39 aV.2.1 b0.tracks,aj 39 aV.2.2.1 b0.between,aj 39 aV.2.2.2 b0.jU] (fun g=>vI y.1) (fun g=>[own kR 76 [sL aV.1.1 b0.l.aT,sL g y.2,sL aV.1.2.2.1 b0.l.Sections,sL aV.1.2.2.2 b0.l.Links,sL aV.2.1 b0.tracks,sL aV.2.2.1 b0.between,sL aV.2.2.2 b0.jU],aj 9 aV.1.1 b0.l.aT,aj 9 g y.2,aj 81 aV.1.2.2.1 b0.l.Sections,aj 183 aV.1.2.2.2 b0.l.Links,aj 39 aV.2.1 b0.tracks,aj 39 aV.2.2.1 b0.between,aj 39 aV.2.2.2 b0.jU]) w):=by
 refine bF (args:=[_]) Tryz.func133 rfl (hP.start) rfl ?_;unfold TV at hM;refine aJ ?_;refine au fun K2 hK2=>?_;refine kZ [2] 18 ?_;refine zm 0 ?_;refine zm 1 ?_;refine aI 2 rfl dF ?_;refine aI 3 rfl (aY 0) ?_;refine fz 4 1 ?_;refine zm 6 ?_;refine aI 7 rfl dF ?_;refine aI 8 rfl (aY 0) ?_;refine fz 9 1 ?_;refine cK 11 rfl (rH jq ⟨rI,?_⟩);obtain⟨y1,hy2,hM⟩:=bind_some hM;refine cK 12 rfl (sV (fun hs=>LK _ _ (⟨[80]⟩:Str) (b0.l.bE.length:Int) y1 hy2 (aM hs)) ⟨rI,?_⟩);refine cK 13 rfl (fI (α:=Str) 9 (fun _=>()) ([y1]:List Str) oF (fun r3=>⟨rI,?_⟩));obtain⟨hb5,hM⟩:=bQ hM;refine cK 14 rfl (iq (r:=aV.1.2.1) (r2:=r3) uR (Kn.aj (e:=9) (r:=r3) hA) oF (of_decide_eq_true hb5) (fun r4=>⟨rI,?_⟩));refine aI 15 rfl dF ?_;refine aI 16 rfl (aY 0) ?_;refine aI 17 rfl (aY 1) ?_;refine iX rfl (sO ?_);refine iW (hK2 _ _ ?_);refine go ?_;refine oN hM fun hM=>?_;refine aN ?_;obtain rfl:=some_inj hM;refine aF (eG (fun w hm=>bR r4 hm rfl))
def Oq(aK:((List Link)×Nat)→Option ((List Str)×(List Link)))(mU:Nat):(List Link)→Option ((List Str)×(List Link)):=fun Oz=>
 aK (Oz,mU+1)
def TT(wX:List Int)(EK:Bool)(b0:dB)(zR:List Str)(x0:Int)(E8:Int)(aK:((List Link)×Nat)→Option ((List Str)×(List Link))):((List Link)×Nat)→Option ((List Str)×(List Link)):=fun (EU,mU)=>
 if decide ((mU:Int)<(wX.length:Int)) then
  (if EK then
   ((idx wX (mU:Int)).bind fun x4=>
   (LJ (dB.mk (Layout.mk b0.l.aT zR b0.l.Sections EU) b0.tracks b0.between b0.jU) x0 x4 E8 (mU:Int)).bind fun y6=>
   Oq aK mU y6)
  else
   ((idx wX (mU:Int)).bind fun x9=>
   (LJ (dB.mk (Layout.mk b0.l.aT zR b0.l.Sections EU) b0.tracks b0.between b0.jU) x9 x0 E8 (mU:Int)).bind fun dR=>
   Oq aK mU dR))
 else
  (some (zR,EU))
def Oo(wX:List Int)(EK:Bool)(b0:dB)(x0:Int):((List Str)×Int)→Option ((List Str)×(List Link)):=fun (zR,E8)=>
 iter (TT wX EK b0 zR x0 E8) FUEL (b0.l.Links,0)
def Ot(b0:dB)(x0:Int)(wX:List Int)(EK:Bool):Option ((List Str)×(List Link)):=
 if decide (1<(wX.length:Int)) then
  ((TV b0).bind fun mq=>
  Oo wX EK b0 x0 (mq.2,mq.1))
 else
  (Oo wX EK b0 x0 (b0.l.bE,(-1)))
theorem ah1(S:aW)(w:World)(kR:Nat)(b0:dB)(aV:ah.R dB)(x0:Int)(wX:List Int)(U4:ah.R (List Int))(EK:Bool)(y:(List Str)×(List Link))(hM:Ot b0 x0 wX EK=some y)(hP:Pre S [own kR 76 (Ea b0 aV),aj 9 aV.1.1 b0.l.aT,aj 9 aV.1.2.1 b0.l.bE,aj 81 aV.1.2.2.1 b0.l.Sections,aj 183 aV.1.2.2.2 b0.l.Links,aj 39 aV.2.1 b0.tracks,aj 39 aV.2.2.1 b0.between,aj 39 aV.2.2.2 b0.jU] w)(aor:ah.ok S w U4 wX):
   Calls Tryz.prog 76 #[vP kR,vI x0,sL U4 wX,.bool EK] w (Post (β:=(SR (ah.R Str))×(SR (ah.R Link))) S [own kR 76 (Ea b0 aV),aj 9 aV.1.1 b0.l.aT,aj 9 aV.1.2.1 b0.l.bE,aj 81 aV.1.2.2.1 b0.l.Sections,aj 183 aV.1.2.2.2 b0.l.Links,aj 39 aV.2.1 b0.tracks,aj 39 aV.2.2.1 b0.between,aj 39 aV.2.2.2 b0.jU] (fun g=> .tuple #[]) (fun g=>[own kR 76 [sL aV.1.1 b0.l.aT,sL g.1 y.1,sL aV.1.2.2.1 b0.l.Sections,sL g.2 y.2,sL aV.2.1 b0.tracks,sL aV.2.2.1 b0.between,sL aV.2.2.2 b0.jU],aj 9 aV.1.1 b0.l.aT,aj 9 g.1 y.1,aj 81 aV.1.2.2.1 b0.l.Sections,aj 183 g.2 y.2,aj 39 aV.2.1 b0.tracks,aj 39 aV.2.2.1 b0.between,aj 39 aV.2.2.2 b0.jU]) w):=by
 refine bF (args:=[_,_,_,_]) Tryz.func76 rfl (hP.start |>.bG aor) rfl ?_;unfold Ot at hM;refine aJ ?_;refine jk (SR (ah.R Str)) y (k:=Oo wX EK b0 x0) [0,1,2,3] (fun (zR,E8) GL=>[(8,eI E8)]) [1,1] (fun (zR,E8) GL=>[aj 9 GL zR,own kR 76 [sL aV.1.1 b0.l.aT,sL GL zR,sL aV.1.2.2.1 b0.l.Sections,sL aV.1.2.2.2 b0.l.Links,sL aV.2.1 b0.tracks,sL aV.2.2.1 b0.between,sL aV.2.2.2 b0.jU]]) ?_ ?_
 ·intro rM dK;refine go ?_;refine co hM (fun yM hM=>?_) (fun yM hM=>?_)
  · refine bg ?_;refine om ?_;obtain⟨mq,I4,hM⟩:=bind_some hM;refine bf (eH sA (fun S w hs hP=>asl _ w kR b0 aV mq I4 hP) (fun tQ=>?_));dsimp only[cA,nA];refine oa ?_;refine bq (dK tQ hM sS rI)
  refine gG (dK aV.1.2.1 hM sS rI)
 clear hM;rintro⟨zR,E8⟩ GL hM;dsimp only[Oo,cA,nA] at hM ⊢;refine aR ?_;refine kK (fun w hm=>Kn.len (kG wX U4) hm) fun hl1=>?_;refine go ?_;refine lr aV.1.2.2.2 hM [0,1,2,3,8,16] (fun (EU,mU) MI=>[(17,eI (mU:Int))]) [1,3] (fun (EU,mU) MI=>[aj 183 MI EU,own kR 76 [sL aV.1.1 b0.l.aT,sL GL zR,sL aV.1.2.2.1 b0.l.Sections,sL MI EU,sL aV.2.1 b0.tracks,sL aV.2.2.1 b0.between,sL aV.2.2.2 b0.jU]]) ?_;clear hM;rintro aK ⟨EU,mU⟩ MI hM eO hL1;dsimp only[TT,cA,nA] at hM ⊢;refine sr ?_;refine oe gq ?_;refine on ?_;refine au fun K4 hK4=>?_;refine co hM (fun hc2 hM=>?_) (fun hc2 hM=>?_)
 ·have Le:=of_decide_eq_true hc2;refine cs hK4 ?_;refine jk (SR (ah.R Link)) y (k:=Oq aK mU) [0,1,2,3,8,16,17] (fun Oz U5=>[]) [0,0] (fun Oz U5=>[aj 183 U5 Oz,own kR 76 [sL aV.1.1 b0.l.aT,sL GL zR,sL aV.1.2.2.1 b0.l.Sections,sL U5 Oz,sL aV.2.1 b0.tracks,sL aV.2.2.1 b0.between,sL aV.2.2.2 b0.jU]]) ?_ ?_
  · intro zB hJ2;refine go ?_;refine co hM (fun hc3 hM=>?_) (fun hc3 hM=>?_)
    ·refine bg ?_;refine go ?_;refine zP 1 (kG wX U4) hM fun x4 hx5 hM=>?_;refine om ?_;refine om ?_;obtain⟨y6,nS,hM⟩:=bind_some hM;refine bf (eH sA (fun S w hs hP=>adO _ w kR (dB.mk (Layout.mk b0.l.aT zR b0.l.Sections EU) b0.tracks b0.between b0.jU) ((aV.1.1,GL,aV.1.2.2.1,MI),aV.2.1,aV.2.2.1,aV.2.2.2) x0 x4 E8 (mU:Int) y6 nS hP) (fun r8=>?_));dsimp only[cA,nA];refine bq (hJ2 r8 hM sS rI)
    refine bg ?_;refine om ?_;refine om ?_;refine om ?_;refine zP 1 (kG wX U4) hM fun x9 sj hM=>?_;refine om ?_;refine om ?_;refine om ?_;obtain⟨dR,uy,hM⟩:=bind_some hM;refine bf (eH sA (fun S w hs hP=>adO _ w kR (dB.mk (Layout.mk b0.l.aT zR b0.l.Sections EU) b0.tracks b0.between b0.jU) ((aV.1.1,GL,aV.1.2.2.1,MI),aV.2.1,aV.2.2.1,aV.2.2.2) x9 x0 E8 (mU:Int) dR uy hP) (fun wU=>?_));dsimp only[cA,nA];refine bq (hJ2 wU hM sS rI)
  clear hM;rintro Oz U5 hM;dsimp only[Oq,cA,nA] at hM ⊢;refine bg ?_;refine oe (dP (hr:=fun _=>by unfold gN;omega)) ?_;refine om ?_;refine bq (hL1 U5 hM sS rI)
 obtain rfl:=some_inj hM;refine RP (DW rfl (fun w hm=>bR (GL,MI) hm rfl))
def adU(aH:Nat)(aK:(Int×(List Str)×(List Section)×(List (List Int))×Nat)→Option (dB×Int))(lu:Int)(jJ:List Str)(eZ:Str)(Co:List Section)(jD:List (List Int))(zU:List Int):Unit→Option (dB×Int):=fun _=>
 aO (aX ((aH:Int)+1))<|
 aK (lu,(jJ++([eZ]:List Str)),Co,(jD++([zU]:List (List Int))),aH+1)
def adV(jD:List (List Int))(zU:List Int)(aH:Nat)(aK:(Int×(List Str)×(List Section)×(List (List Int))×Nat)→Option (dB×Int))(lu:Int)(jJ:List Str)(eZ:Str)(Co:List Section):Unit→Option (dB×Int):=fun _=>
 aO (decide ((jD.length+([zU]:List (List Int)).length)*24≤140737488355328))<|
 adU aH aK lu jJ eZ Co jD zU ()
def LM(aH:Nat)(s0:bN)(jJ:List Str)(eZ:Str)(jD:List (List Int))(aK:(Int×(List Str)×(List Section)×(List (List Int))×Nat)→Option (dB×Int))(eU:(Int×(List Section)×(List Int)×Int)→Option (dB×Int)):(Int×(List Section)×(List Int)×Int)→Option (dB×Int):=fun (lu,Co,zU,dI)=>
 if decide (0<dI) then
  ((DV (⟨[84]⟩:Str) (aH:Int)).bind fun y25=>
  (DV y25 dI).bind fun y27=>
  (Ol (bN.mk s0.l lu) y27 (aH:Int)).bind fun y29=>
  aO (aX (y29.1.Length+2))<|
  (Om (dB.mk (Layout.mk (jJ++([eZ]:List Str)) ([]:List Str) Co ([]:List Link)) jD ([]:List (List Int)) ([]:List (List Int))) (Section.mk y29.1.Name (y29.1.Length+2) y29.1.Limit y29.1.jM y29.1.nH)).bind fun y34=>
  aO (decide ((zU.length+([y34.1]:List Int).length)*8≤140737488355328))<|
  aO (aX (dI-1))<|
  eU (y29.2,y34.2,(zU++([y34.1]:List Int)),(dI-1)))
 else
  (adV jD zU aH aK lu jJ eZ Co ())
def adX(gy:Nat)(kS:(Int×(List Str)×(List Section)×(List Link)×(List (List Int))×Nat)→Option (dB×Int))(yC:Int)(y91:(List Str)×(List Link))(qL:List Section)(nJ:List (List Int))(qb:List Int):Unit→Option (dB×Int):=fun _=>
 aO (aX ((gy:Int)+1))<|
 kS (yC,y91.1,qL,y91.2,(nJ++([qb]:List (List Int))),gy+1)
def Ow(qb:List Int)(jD:List (List Int))(gy:Nat)(jJ:List Str)(qw:List Str)(qL:List Section)(DZ:List Link)(nJ:List (List Int))(kS:(Int×(List Str)×(List Section)×(List Link)×(List (List Int))×Nat)→Option (dB×Int))(yC:Int):Unit→Option (dB×Int):=fun _=>
 (idx qb 0).bind fun FN=>
 (idx jD (gy:Int)).bind fun x80=>
 (Ot (dB.mk (Layout.mk jJ qw qL DZ) jD nJ ([]:List (List Int))) FN x80 false).bind fun FQ=>
 aO (aX ((qb.length:Int)-1))<|
 (idx qb ((qb.length:Int)-1)).bind fun x86=>
 aO (aX ((gy:Int)+1))<|
 (idx jD ((gy:Int)+1)).bind fun x89=>
 (Ot (dB.mk (Layout.mk jJ FQ.1 qL FQ.2) jD nJ ([]:List (List Int))) x86 x89 true).bind fun y91=>
 aO (decide ((nJ.length+([qb]:List (List Int)).length)*24≤140737488355328))<|
 adX gy kS yC y91 qL nJ qb ()
def T9(qb:List Int)(jJ:List Str)(qw:List Str)(qL:List Section)(jD:List (List Int))(nJ:List (List Int))(gy:Nat)(kS:(Int×(List Str)×(List Section)×(List Link)×(List (List Int))×Nat)→Option (dB×Int))(yC:Int)(Ir:((List Link)×Nat)→Option (dB×Int)):((List Link)×Nat)→Option (dB×Int):=fun (DZ,DU)=>
 aO (aX ((DU:Int)+1))<|
 if decide (((DU:Int)+1)<(qb.length:Int)) then
  ((idx qb (DU:Int)).bind fun x69=>
  aO (aX ((DU:Int)+1))<|
  (idx qb ((DU:Int)+1)).bind fun x72=>
  (LJ (dB.mk (Layout.mk jJ qw qL DZ) jD nJ ([]:List (List Int))) x69 x72 (-1) 0).bind fun zy=>
  aO (aX ((DU:Int)+1))<|
  Ir (zy,DU+1))
 else
  (Ow qb jD gy jJ qw qL DZ nJ kS yC ())
def Ua(qb:List Int)(jJ:List Str)(qw:List Str)(qL:List Section)(jD:List (List Int))(nJ:List (List Int))(gy:Nat)(kS:(Int×(List Str)×(List Section)×(List Link)×(List (List Int))×Nat)→Option (dB×Int))(yC:Int)(xP:List Link):Unit→Option (dB×Int):=fun _=>
 iter (T9 qb jJ qw qL jD nJ gy kS yC) FUEL (xP,0)
def LP(gy:Nat)(s0:bN)(jJ:List Str)(qw:List Str)(xP:List Link)(jD:List (List Int))(nJ:List (List Int))(kS:(Int×(List Str)×(List Section)×(List Link)×(List (List Int))×Nat)→Option (dB×Int))(rQ:(Int×(List Section)×(List Int)×Int)→Option (dB×Int)):(Int×(List Section)×(List Int)×Int)→Option (dB×Int):=fun (yC,qL,qb,o9)=>
 if decide (0<o9) then
  ((DV (⟨[76]⟩:Str) (gy:Int)).bind fun tZ=>
  (DV tZ o9).bind fun y55=>
  (Ol (bN.mk s0.l yC) y55 (-1)).bind fun FP=>
  (Om (dB.mk (Layout.mk jJ qw qL xP) jD nJ ([]:List (List Int))) FP.1).bind fun HY=>
  aO (decide ((qb.length+([HY.1]:List Int).length)*8≤140737488355328))<|
  aO (aX (o9-1))<|
  rQ (FP.2,HY.2,(qb++([HY.1]:List Int)),(o9-1)))
 else
  (Ua qb jJ qw qL jD nJ gy kS yC xP ())
def adW(jJ:List Str)(qw:List Str)(Gs:List Section)(xP:List Link)(jD:List (List Int))(nJ:List (List Int))(F3:Int):Unit→Option (dB×Int):=fun _=>
 some ((dB.mk (Layout.mk jJ qw Gs xP) jD nJ ([]:List (List Int))),F3)
def adT(y2:Int×Int)(s0:bN)(jJ:List Str)(jD:List (List Int))(kS:(Int×(List Str)×(List Section)×(List Link)×(List (List Int))×Nat)→Option (dB×Int)):(Int×(List Str)×(List Section)×(List Link)×(List (List Int))×Nat)→Option (dB×Int):=fun (F3,qw,Gs,xP,nJ,gy)=>
 aO (aX ((gy:Int)+1))<|
 if decide (((gy:Int)+1)<(2+y2.1)) then
  ((jY (bN.mk s0.l F3) 2).bind fun tY=>
  aO (aX (1+tY.1))<|
  iter (LP gy s0 jJ qw xP jD nJ kS) FUEL (tY.2,Gs,([]:List Int),(1+tY.1)))
 else
  (adW jJ qw Gs xP jD nJ F3 ())
def Y6(y2:Int×Int)(s0:bN)(jJ:List Str)(jD:List (List Int))(oZ:Int)(Gr:List Section):Unit→Option (dB×Int):=fun _=>
 iter (adT y2 s0 jJ jD) FUEL (oZ,([]:List Str),Gr,([]:List Link),([]:List (List Int)),0)
def adS(y2:Int×Int)(s0:bN)(aK:(Int×(List Str)×(List Section)×(List (List Int))×Nat)→Option (dB×Int)):(Int×(List Str)×(List Section)×(List (List Int))×Nat)→Option (dB×Int):=fun (oZ,jJ,Gr,jD,aH)=>
 if decide ((aH:Int)<(2+y2.1)) then
  ((DV (⟨[83]⟩:Str) (aH:Int)).bind fun eZ=>
  aO (decide ((jJ.length+([eZ]:List Str).length)*16≤140737488355328))<|
  (jY (bN.mk s0.l oZ) 2).bind fun uX=>
  aO (aX (1+uX.1))<|
  iter (LM aH s0 jJ eZ jD aK) FUEL (uX.2,Gr,([]:List Int),(1+uX.1)))
 else
  (Y6 y2 s0 jJ jD oZ Gr ())
def Ub(s0:bN):Option (dB×Int):=
 (jY s0 2).bind fun y2=>
 aO (aX (2+y2.1))<|
 iter (adS y2 s0) FUEL (y2.2,([]:List Str),([]:List Section),([]:List (List Int)),0)
theorem aso(S:aW)(w:World)(iE:Nat)(s0:bN)(dh:ah.R bN)(y:dB×Int)(hM:Ub s0=some y)(hP:Pre S [own iE 136 (D8 s0 dh)] w)(Gi:ah.ok (α:=List Int) S w dh s0.l):
   Calls Tryz.prog 26 #[vP iE] w (Post (β:=Nat×(ah.R (List Str))×(ah.R (List Str))×(ah.R (List Section))×(ah.R (List Link))×(ah.R (List (List Int)))×(ah.R (List (List Int)))×(ah.R (List (List Int)))) S [own iE 136 (D8 s0 dh)] (fun g=>vP g.1) (fun g=>[own g.1 76 [sL g.2.1 y.1.l.aT,sL g.2.2.1 y.1.l.bE,sL g.2.2.2.1 y.1.l.Sections,sL g.2.2.2.2.1 y.1.l.Links,sL g.2.2.2.2.2.1 y.1.tracks,sL g.2.2.2.2.2.2.1 y.1.between,sL g.2.2.2.2.2.2.2 y.1.jU],aj 9 g.2.1 y.1.l.aT,aj 9 g.2.2.1 y.1.l.bE,aj 81 g.2.2.2.1 y.1.l.Sections,aj 183 g.2.2.2.2.1 y.1.l.Links,aj 39 g.2.2.2.2.2.1 y.1.tracks,aj 39 g.2.2.2.2.2.2.1 y.1.between,aj 39 g.2.2.2.2.2.2.2 y.1.jU,own iE 136 [sL dh s0.l,vI y.2]]) w):=by
 refine bF (args:=[_]) Tryz.func26 rfl (hP.start |>.bG Gi) rfl ?_;unfold Ub at hM;refine aJ ?_;refine sr ?_;refine oe (dO [z0,z0,z0,z0,z0,z0,z0]) ?_;refine oB [z0,z0,z0,z0,z0,z0,z0] fun b1=>?_;refine aN ?_;refine aR ?_;obtain⟨y2,hy3,hM⟩:=bind_some hM;refine bf (fu sA (fun S w hs hP=>iI _ w iE s0 dh 2 y2 hy3 hP (kM hs)) fG (fun r4=>?_));dsimp only[cA,nA];refine oP hM fun hM=>?_;refine aN ?_;refine au fun K4 hK4=>?_;refine aJ ?_;refine bI ?_;refine rn Str 9 (fun _=>()) ?_;refine rn Str 9 (fun _=>()) ?_;refine rn Section 81 (fun _=>()) ?_;refine rn Link 183 (fun _=>()) ?_;refine iP (fun w hm=>hm.sN (α:=List Int) 39 (fun _=>zV)) ?_;refine iP (fun w hm=>hm.sN (α:=List Int) 39 (fun _=>zV)) ?_;refine iP (fun w hm=>hm.sN (α:=List Int) 39 (fun _=>zV)) ?_;refine lr (uG,Ma,qN) hM [0,3,4] (fun (oZ,jJ,Gr,jD,aH) (Bn,Px,qP)=>[(5,eI (aH:Int))]) [2,1,1,0,0] (fun (oZ,jJ,Gr,jD,aH) (Bn,Px,qP)=>[own iE 136 [sL dh s0.l,vI oZ],aj 9 Bn jJ,aj 81 Px Gr,aj 39 qP jD,own b1 76 [sL Bn jJ,z0,sL Px Gr,z0,sL qP jD,.slice qN.a (([]:List (List Int)).length) qN.cap,.slice qN.a (([]:List (List Int)).length) qN.cap]]) ?_;clear hM;rintro aK ⟨oZ,jJ,Gr,jD,aH⟩ ⟨Bn,Px,qP⟩ hM eO hL1;dsimp only[adS,cA,nA] at hM ⊢;refine au fun K6 dG=>?_;refine go ?_;refine co hM (fun zM hM=>?_) (fun zM hM=>?_)
 ·refine cs dG ?_;refine au fun K8 gP=>?_;refine bI ?_;refine au fun K9 fH=>?_;refine kZ [1] 13 ?_;refine zm 0 ?_;refine zm 1 ?_;refine aI 2 rfl dF ?_;refine aI 3 rfl (aY 0) ?_;refine fz 4 0 ?_;refine zm 6 ?_;obtain⟨eZ,uz,hM⟩:=bind_some hM;refine cK 7 rfl (sV (fun hs=>LK _ _ (⟨[83]⟩:Str) (aH:Int) eZ uz (aM hs)) ⟨rI,?_⟩);refine cK 8 rfl (fI (α:=Str) 9 (fun _=>()) ([eZ]:List Str) oF (fun r16=>⟨rI,?_⟩));obtain⟨Sq,hM⟩:=bQ hM;refine cK 9 rfl (iq (r:=Bn) (r2:=r16) uR (Kn.aj (e:=9) (r:=r16) hA) oF (of_decide_eq_true Sq) (fun tQ=>⟨rI,?_⟩));refine aI 10 rfl dF ?_;refine aI 11 rfl (aY 0) ?_;refine aI 12 rfl (aY 0) ?_;refine iX rfl (sO ?_);refine iW (fH _ _ ?_);refine aJ ?_;refine au fun nG gH=>?_;refine aR ?_;obtain⟨uX,Tc,hM⟩:=bind_some hM;refine bf (fu sA (fun S w hs hP=>iI _ w iE (bN.mk s0.l oZ) dh 2 uX Tc hP (kM hs)) fG (fun ze=>?_));dsimp only[cA,nA];refine oP hM fun hM=>?_;refine aN ?_;refine bI ?_;refine rn Int 3 (fun _=>()) ?_;refine lr (Px,zV) hM [0,3,4,5] (fun (lu,Co,zU,dI) (Py,M5)=>[(6,eS M5 zU),(7,eI dI)]) [0,0,0,1,1] (fun (lu,Co,zU,dI) (Py,M5)=>[own iE 136 [sL dh s0.l,vI lu],aj 81 Py Co,own b1 76 [.slice tQ.a ((jJ++([eZ]:List Str)).length) tQ.cap,z0,sL Py Co,z0,sL qP jD,.slice qN.a (([]:List (List Int)).length) qN.cap,.slice qN.a (([]:List (List Int)).length) qN.cap],aj 3 M5 zU]) ?_;clear hM;rintro eU ⟨lu,Co,zU,dI⟩ ⟨Py,M5⟩ hM xA hL2;dsimp only[LM,cA,nA] at hM ⊢;refine au fun zA nR=>?_;refine aR ?_;refine oe vY ?_;refine oc hM (fun hc24 hM=>?_) (fun hc24 hM=>?_)
  · refine cs nR ?_;refine au fun Dn qF=>?_;refine bI ?_;refine aR ?_;refine om ?_;obtain⟨y25,yP,hM⟩:=bind_some hM;refine cv (fun hs=>LK _ _ (⟨[84]⟩:Str) (aH:Int) y25 yP (aM hs)) ?_;refine om ?_;obtain⟨y27,hy28,hM⟩:=bind_some hM;refine cv (fun hs=>LK _ _ y25 dI y27 hy28 (aM hs)) ?_;refine om ?_;obtain⟨y29,Td,hM⟩:=bind_some hM;refine bf (fu sA (fun S w hs hP=>ahZ _ w iE (bN.mk s0.l lu) dh y27 (aH:Int) y29 Td hP (kM hs)) fG (fun MC=>?_));dsimp only[cA,nA];refine oA rfl fun b32=>?_;refine oS b32 (Eb y29.1) ?_;refine on ?_;refine sr ?_;refine fo 1 ?_;refine oP hM fun hM=>?_;refine oe (aY 1) ?_;refine kY ?_;refine on ?_;refine bg ?_;refine go ?_;obtain⟨y34,Cm,hM⟩:=bind_some hM;refine bf (eH sA (fun S w hs hP=>ah0 _ w b1 (dB.mk (Layout.mk (jJ++([eZ]:List Str)) ([]:List Str) Co ([]:List Link)) jD ([]:List (List Int)) ([]:List (List Int))) ((tQ,uG,Py,Jd),qP,qN,qN) (Section.mk y29.1.Name (y29.1.Length+2) y29.1.Limit y29.1.jM y29.1.nH) y34 Cm hP) (fun ZB=>?_));dsimp only[cA,nA];refine bf (fI (α:=Int) 3 (fun _=>()) ([y34.1]:List Int) oF (fun U2=>?_));obtain⟨aoK,hM⟩:=bQ hM;refine bf (iq (r:=M5) (r2:=U2) uR (Kn.aj (e:=3) (r:=U2) hA) oF (of_decide_eq_true aoK) (fun Fa=>?_));refine oa ?_;refine bq (qF _ _ ?_);refine bg ?_;refine om ?_;refine oN hM fun hM=>?_;refine oa ?_;refine bq (hL2 (ZB,Fa) hM sS rI)
  refine cx gH ?_;dsimp only[adV] at hM;refine bg ?_;refine go ?_;refine z8 (fun w hm=>hm.freeze (r:=M5) uA) ?_;refine bf (fI (α:=List Int) 39 (fun _=>M5) ([zU]:List (List Int)) (jV.cons (fun S w hs=>(kI hs)) jV.nil) (fun r41=>?_));obtain⟨acN,hM⟩:=bQ hM;refine bf (iq (r:=qP) (r2:=r41) uR (Kn.aj (e:=39) (r:=r41) hA) (jV.row (e:=39) (r:=r41) hA) (of_decide_eq_true acN) (fun r42=>?_));refine go ?_;refine kY ?_;refine bq (gP _ _ ?_);dsimp only[adU] at hM;refine bg ?_;refine om ?_;refine oP hM fun hM=>?_;refine oa ?_;refine bq (hL1 (tQ,Py,r42) hM sS rI)
 refine cx hK4 ?_;dsimp only[Y6] at hM;refine au fun H7 wo=>?_;refine aJ ?_;refine bI ?_;refine lr (uG,Px,Jd,qN) hM [0,3,4] (fun (F3,qw,Gs,xP,nJ,gy) (Fb,Pz,Jv,CG)=>[(9,eI (gy:Int))]) [0,1,1,1,0,0] (fun (F3,qw,Gs,xP,nJ,gy) (Fb,Pz,Jv,CG)=>[own iE 136 [sL dh s0.l,vI F3],aj 9 Fb qw,aj 81 Pz Gs,aj 183 Jv xP,aj 39 CG nJ,own b1 76 [sL Bn jJ,sL Fb qw,sL Pz Gs,sL Jv xP,sL qP jD,sL CG nJ,.slice qN.a (([]:List (List Int)).length) qN.cap]]) ?_;clear hM;rintro kS ⟨F3,qw,Gs,xP,nJ,gy⟩ ⟨Fb,Pz,Jv,CG⟩ hM H8 hL3;dsimp only[adT,cA,nA] at hM ⊢;refine au fun EC rV=>?_;refine aR ?_;refine oP hM fun hM=>?_;refine om ?_;refine oe gq ?_;refine oc hM (fun SG hM=>?_) (fun SG hM=>?_)
 ·refine cs rV ?_;refine au fun Rc Dy=>?_;refine bI ?_;refine aJ ?_;refine au fun Xo Gg=>?_;refine aR ?_;obtain⟨tY,Ti,hM⟩:=bind_some hM;refine bf (fu sA (fun S w hs hP=>iI _ w iE (bN.mk s0.l F3) dh 2 tY Ti hP (kM hs)) fG (fun ZC=>?_));dsimp only[cA,nA];refine oP hM fun hM=>?_;refine aN ?_;refine bI ?_;refine rn Int 3 (fun _=>()) ?_;refine lr (Pz,zV) hM [0,3,4,9] (fun (yC,qL,qb,o9) (Fe,Eo)=>[(10,eS Eo qb),(11,eI o9)]) [0,0,1,2] (fun (yC,qL,qb,o9) (Fe,Eo)=>[own iE 136 [sL dh s0.l,vI yC],aj 81 Fe qL,own b1 76 [sL Bn jJ,sL Fb qw,sL Fe qL,sL Jv xP,sL qP jD,sL CG nJ,.slice qN.a (([]:List (List Int)).length) qN.cap],aj 3 Eo qb]) ?_;clear hM;rintro rQ ⟨yC,qL,qb,o9⟩ ⟨Fe,Eo⟩ hM Xt hL4;dsimp only[LP,cA,nA] at hM ⊢;refine au fun Rf Dz=>?_;refine aR ?_;refine oe vY ?_;refine oc hM (fun acT hM=>?_) (fun acT hM=>?_)
  · refine cs Dz ?_;refine au fun K28 acB=>?_;refine bI ?_;refine bg ?_;refine go ?_;obtain⟨tZ,Tj,hM⟩:=bind_some hM;refine cv (fun hs=>LK _ _ (⟨[76]⟩:Str) (gy:Int) tZ Tj (aM hs)) ?_;refine om ?_;obtain⟨y55,ars,hM⟩:=bind_some hM;refine cv (fun hs=>LK _ _ tZ o9 y55 ars (aM hs)) ?_;obtain⟨FP,ado,hM⟩:=bind_some hM;refine bf (fu sA (fun S w hs hP=>ahZ _ w iE (bN.mk s0.l yC) dh y55 (-1) FP ado hP (kM hs)) fG (fun ZE=>?_));dsimp only[cA,nA];obtain⟨HY,adp,hM⟩:=bind_some hM;refine bf (eH sA (fun S w hs hP=>ah0 _ w b1 (dB.mk (Layout.mk jJ qw qL xP) jD nJ ([]:List (List Int))) ((Bn,Fb,Fe,Jv),qP,CG,qN) FP.1 HY adp hP) (fun r62=>?_));dsimp only[cA,nA];refine bf (fI (α:=Int) 3 (fun _=>()) ([HY.1]:List Int) oF (fun r63=>?_));obtain⟨aoQ,hM⟩:=bQ hM;refine bf (iq (r:=Eo) (r2:=r63) uR (Kn.aj (e:=3) (r:=r63) hA) oF (of_decide_eq_true aoQ) (fun r64=>?_));refine oa ?_;refine bq (acB _ _ ?_);refine bg ?_;refine om ?_;refine oN hM fun hM=>?_;refine oa ?_;refine bq (hL4 (r62,r64) hM sS rI)
  refine cx Gg ?_;dsimp only[Ua] at hM;refine au fun NI Ay=>?_;refine aJ ?_;refine bI ?_;refine lr Jv hM [0,3,4,9,10] (fun (DZ,DU) PD=>[(12,eI (DU:Int))]) [2,2] (fun (DZ,DU) PD=>[aj 183 PD DZ,own b1 76 [sL Bn jJ,sL Fb qw,sL Fe qL,sL PD DZ,sL qP jD,sL CG nJ,.slice qN.a (([]:List (List Int)).length) qN.cap]]) ?_;clear hM;rintro Ir ⟨DZ,DU⟩ PD hM KL5 hL5;dsimp only[T9,cA,nA] at hM ⊢;refine au fun K31 Sg=>?_;refine aR ?_;refine oP hM fun hM=>?_;refine go ?_;refine co hM (fun apb hM=>?_) (fun apb hM=>?_)
  · refine cs Sg ?_;refine au fun K33 IK=>?_;refine bI ?_;refine kZ [] 10 ?_;refine zm 0 ?_;refine zm 1 ?_;refine zm 2 ?_;refine AX 3 1 (Kn.aj (e:=3) (r:=Eo) hA) hM fun x69 axO hM=>?_;refine zm 5 ?_;refine zm 6 ?_;obtain⟨an4,hM⟩:=bQ hM;refine aI 7 rfl (dP (hr:=fun hg=>dU an4)) ?_;refine AX 8 1 (Kn.aj (e:=3) (r:=Eo) hA) hM fun x72 axP hM=>?_;obtain⟨zy,Tk,hM⟩:=bind_some hM;refine iX rfl (eH sA (fun S w hs hP=>adO _ w b1 (dB.mk (Layout.mk jJ qw qL DZ) jD nJ ([]:List (List Int))) ((Bn,Fb,Fe,PD),qP,CG,qN) x69 x72 (-1) 0 zy Tk hP) (fun r76=>?_));dsimp only[cA,nA];refine iW (IK _ _ ?_);refine bg ?_;refine om ?_;refine oP hM fun hM=>?_;refine oa ?_;refine bq (hL5 r76 hM sS rI)
  refine cx Ay ?_;dsimp only[Ow] at hM;refine au fun K34 Sj=>?_;refine kZ [] 11 ?_;refine zm 0 ?_;refine zm 1 ?_;refine AX 2 1 (Kn.aj (e:=3) (r:=Eo) hA) hM fun FN YN hM=>?_;refine zm 4 ?_;refine aI 5 rfl dF ?_;refine fz 6 4 ?_;refine zm 8 ?_;refine AX 9 1 (Kn.aj (e:=39) (r:=qP) hA) hM fun x80 YO hM=>?_;refine vg (fun w hm=>hm.AV (α:=List Int) (r:=(qP.es (gy:Int).toNat)) (x:=x80) (fun S hs=>(Sk.row (e:=39) (r:=qP) hA YO) S w hs)) ?_;obtain⟨FQ,adv,hM⟩:=bind_some hM;refine iX rfl (eH sA (fun S w hs hP=>ah1 _ w b1 (dB.mk (Layout.mk jJ qw qL DZ) jD nJ ([]:List (List Int))) ((Bn,Fb,Fe,PD),qP,CG,qN) FN x80 (qP.es (gy:Int).toNat) false FQ adv hP (kI hs)) (fun ZF=>?_));dsimp only[cA,nA];refine iW (Sj _ _ ?_);refine au fun K35 acC=>?_;refine kZ [] 15 ?_;refine zm 0 ?_;refine zm 1 ?_;refine zm 2 ?_;refine aI 3 rfl jq ?_;obtain⟨an6,hM⟩:=bQ hM;refine aI 4 rfl (pW (hr:=fun hg=>dU an6)) ?_;refine AX 5 1 (Kn.aj (e:=3) (r:=Eo) hA) hM fun x86 axR hM=>?_;refine zm 7 ?_;refine aI 8 rfl dF ?_;refine fz 9 4 ?_;refine zm 11 ?_;obtain⟨an7,hM⟩:=bQ hM;refine aI 12 rfl (dP (hr:=fun hg=>dU an7)) ?_;refine AX 13 1 (Kn.aj (e:=39) (r:=qP) hA) hM fun x89 hx90 hM=>?_;refine vg (fun w hm=>hm.AV (α:=List Int) (r:=(qP.es ((gy:Int)+1).toNat)) (x:=x89) (fun S hs=>(Sk.row (e:=39) (r:=qP) hA hx90) S w hs)) ?_;obtain⟨y91,arF,hM⟩:=bind_some hM;refine iX rfl (eH sA (fun S w hs hP=>ah1 _ w b1 (dB.mk (Layout.mk jJ FQ.1 qL FQ.2) jD nJ ([]:List (List Int))) ((Bn,ZF.1,Fe,ZF.2),qP,CG,qN) x86 x89 (qP.es ((gy:Int)+1).toNat) true y91 arF hP (kI hs)) (fun r93=>?_));dsimp only[cA,nA];refine iW (acC _ _ ?_);refine bg ?_;refine go ?_;refine z8 (fun w hm=>hm.freeze (r:=Eo) uA) ?_;refine bf (fI (α:=List Int) 39 (fun _=>Eo) ([qb]:List (List Int)) (jV.cons (fun S w hs=>(kI hs)) jV.nil) (fun ZG=>?_));obtain⟨aoU,hM⟩:=bQ hM;refine bf (iq (r:=CG) (r2:=ZG) uR (Kn.aj (e:=39) (r:=ZG) hA) (jV.row (e:=39) (r:=ZG) hA) (of_decide_eq_true aoU) (fun r95=>?_));refine go ?_;refine kY ?_;refine bq (Dy _ _ ?_);dsimp only[adX] at hM;refine bg ?_;refine om ?_;refine oP hM fun hM=>?_;refine oa ?_;refine bq (hL3 (r93.1,Fe,r93.2,r95) hM sS rI)
 refine cx wo ?_;dsimp only[adW] at hM;refine aR ?_;refine aN ?_;obtain rfl:=some_inj hM;refine aF (eG (fun w hm=>bR (b1,Bn,Fb,Pz,Jv,qP,CG,qN) hm rfl))
end Go.Proofs.YtcalibhfgdncaaaGreatDoor

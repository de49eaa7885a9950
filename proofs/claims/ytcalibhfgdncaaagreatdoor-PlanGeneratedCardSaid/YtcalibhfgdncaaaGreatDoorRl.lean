/- Models of functions, and that the code computes them. -/
import Derived.Test.YtcalibhfgdncaaaGreatDoorRk
set_option linter.all false
namespace Go.Proofs.YtcalibhfgdncaaaGreatDoor
open Go.Dc Go.RowKit
set_option maxRecDepth 10000
def Ct(Vh:Str)(n0:Int):Option Str:=
 bq (bJ ((n0.tmod 10)+1))<|
 (BH (⟨[48,49,50,51,52,53,54,55,56,57]⟩:Str) (n0.tmod 10) ((n0.tmod 10)+1)).bind fun q2=>
 (dX Vh q2).bind fun q4=>
 some q4
theorem JL(S:bO)(w:World)(Vh:Str)(n0:Int)(y:Str)(hM:Ct Vh n0=some y)(hS:sB S w):
  Calls Tryz.prog 72 #[.string Vh.ba,vI n0] w (dz w (.string y.ba)):=by
 refine cu (args:=[_,_]) Tryz.func72 rfl ((pre_nil hS).start) rfl ?_;unfold Ct at hM;refine bI ?_;refine aW ?_;refine om ?_;refine oe BZ ?_;refine om ?_;refine oe BZ ?_;refine oP hM fun hM=>?_;obtain⟨q2,hq3,hM⟩:=bind_some hM;refine oe (Jp (ol:=some (.i64,(n0.tmod 10))) (oh:=some (.i64,((n0.tmod 10)+1))) (fun _=>hq3)) ?_;obtain⟨q4,hq5,hM⟩:=bind_some hM;refine oe (eZ (fun _=>hq5)) ?_;refine aT ?_;exact aY (bQ hM)
def MF(s0:bZ)(M5:Str)(OG:Int):Option (Section×Int):=
 (kS s0 9).bind fun y2=>
 bq (bJ (2+y2.1))<|
 (kS (bZ.mk s0.l y2.2) 7).bind fun y6=>
 bq (bJ (5000*y6.1))<|
 bq (bJ (5000+(5000*y6.1)))<|
 (kS (bZ.mk s0.l y6.2) 21).bind fun eU=>
 bq (bJ (eU.1-10))<|
 some ((Section.mk M5 (2+y2.1) (5000+(5000*y6.1)) (eU.1-10) OG),eU.2)
theorem afi(S:bO)(w:World)(fC:Nat)(s0:bZ)(bX:aC.R bZ)(M5:Str)(OG:Int)(y:Section×Int)(hM:MF s0 M5 OG=some y)(hP:Pre S [own fC 136 (Cy s0 bX)] w)(Fg:aC.ok (α:=List Int) S w bX s0.l):
  Calls Tryz.prog 73 #[vP fC,.string M5.ba,vI OG] w (Post (β:=Unit) S [own fC 136 (Cy s0 bX)] (fun g=> .agg (adB y.1)) (fun g=>[own fC 136 [sL bX s0.l,vI y.2]]) w):=by
 refine cu (args:=[_,_,_]) Tryz.func73 rfl (hP.start |>.gW (α:=List Int) (r:=bX) (x:=s0.l) Fg) rfl ?_;unfold MF at hM;refine sr ?_;refine oA rfl fun b1=>?_;refine on ?_;refine aW ?_;refine om ?_;obtain⟨y2,hy3,hM⟩:=bind_some hM;refine bM (fJ sA (fun S w hs hP=>je _ w fC s0 bX 9 y2 hy3 hP (kM hs)) gq (fun r4=>?_));dsimp only[cA,nA];refine oP hM fun hM=>?_;refine om ?_;obtain⟨y6,qh,hM⟩:=bind_some hM;refine bM (fJ sA (fun S w hs hP=>je _ w fC (bZ.mk s0.l y2.2) bX 7 y6 qh hP (kM hs)) gq (fun r8=>?_));dsimp only[cA,nA];obtain⟨hI9,hM⟩:=bW hM;refine oe (tQ (hr:=fun hg=>dY hI9)) ?_;refine oP hM fun hM=>?_;refine om ?_;obtain⟨eU,vV,hM⟩:=bind_some hM;refine bM (fJ sA (fun S w hs hP=>je _ w fC (bZ.mk s0.l y6.2) bX 21 eU vV hP (kM hs)) gq (fun sO=>?_));dsimp only[cA,nA];refine oN hM fun hM=>?_;refine om ?_;refine oe (gI [.string M5.ba,vI (2+y2.1),vI (5000+(5000*y6.1)),vI (eU.1-10),vI OG]) ?_
 refine oS b1 [.string M5.ba,vI (2+y2.1),vI (5000+(5000*y6.1)),vI (eU.1-10),vI OG] ?_;refine on ?_;obtain rfl:=some_inj hM;refine aY (mD (fun w hm=>fU () hm rfl))
def MG(b0:dM)(x0:Section):Option (Int×(List Section)):=
 bq (decide ((b0.l.Sections.length+([x0]:List Section).length)*48≤140737488355328))<|
 bq (bJ (((b0.l.Sections++([x0]:List Section)).length:Int)-1))<|
 some ((((b0.l.Sections++([x0]:List Section)).length:Int)-1),(b0.l.Sections++([x0]:List Section)))
theorem afj(S:bO)(w:World)(gH:Nat)(b0:dM)(aQ:aC.R dM)(x0:Section)(y:Int×(List Section))(hM:MG b0 x0=some y)(hP:Pre S [own gH 76 (qZ b0 aQ),aj 9 aQ.1.1 b0.l.aU,aj 9 aQ.1.2.1 b0.l.bG,aj 81 aQ.1.2.2.1 b0.l.Sections,aj 183 aQ.1.2.2.2 b0.l.Links,aj 39 aQ.2.1 b0.tracks,aj 39 aQ.2.2.1 b0.between,aj 39 aQ.2.2.2 b0.eX] w):
  Calls Tryz.prog 74 #[vP gH,.agg (adB x0)] w (Post (β:=(SR (aC.R Section))) S [own gH 76 (qZ b0 aQ),aj 9 aQ.1.1 b0.l.aU,aj 9 aQ.1.2.1 b0.l.bG,aj 81 aQ.1.2.2.1 b0.l.Sections,aj 183 aQ.1.2.2.2 b0.l.Links,aj 39 aQ.2.1 b0.tracks,aj 39 aQ.2.2.1 b0.between,aj 39 aQ.2.2.2 b0.eX] (fun g=>vI y.1) (fun g=>[own gH 76 [sL aQ.1.1 b0.l.aU,sL aQ.1.2.1 b0.l.bG,sL g y.2,sL aQ.1.2.2.2 b0.l.Links,sL aQ.2.1 b0.tracks,sL aQ.2.2.1 b0.between,sL aQ.2.2.2 b0.eX],aj 9 aQ.1.1 b0.l.aU,aj 9 aQ.1.2.1 b0.l.bG,aj 81 g y.2,aj 183 aQ.1.2.2.2 b0.l.Links,aj 39 aQ.2.1 b0.tracks,aj 39 aQ.2.2.1 b0.between,aj 39 aQ.2.2.2 b0.eX]) w):=by
 refine cu (args:=[_,_]) Tryz.func74 rfl (hP.start) rfl ?_;unfold MG at hM;refine sr ?_;refine oB (Ae x0) fun b1=>?_;refine aT ?_;refine aK fun K2 hK2=>?_;refine iW [own b1 81 (Ae x0),own gH 76 (qZ b0 aQ),aj 9 aQ.1.1 b0.l.aU,aj 9 aQ.1.2.1 b0.l.bG,aj 183 aQ.1.2.2.2 b0.l.Links,aj 39 aQ.2.1 b0.tracks,aj 39 aQ.2.2.1 b0.between,aj 39 aQ.2.2.2 b0.eX] 12 ?_;refine aG 0 rfl aL ?_;refine aG 1 rfl aL ?_;refine aG 2 rfl fI ?_;refine aG 3 rfl (av 0) ?_;refine aG 4 rfl (av 2) ?_;refine aG 5 rfl (aF (b:=gH)) ?_;refine aG 6 rfl (bR (b:=b1)) ?_;refine dA 7 rfl (fD (α:=Section) 81 (fun _=>()) ([x0]:List Section) oF (fun r2=>⟨rI,?_⟩));obtain⟨hb4,hM⟩:=bW hM
 refine dA 8 rfl (jc (r:=aQ.1.2.2.1) (r2:=r2) uR (Kn.aj (e:=81) (r:=r2) hA) oF (of_decide_eq_true hb4) (fun r3=>⟨rI,?_⟩));refine aG 9 rfl fI ?_;refine aG 10 rfl (av 0) ?_;refine aG 11 rfl (av 2) ?_;refine iQ rfl (iD (b:=gH) (l':=[sL aQ.1.1 b0.l.aU,sL aQ.1.2.1 b0.l.bG,.slice r3.a ((b0.l.Sections++([x0]:List Section)).length) r3.cap,sL aQ.1.2.2.2 b0.l.Links,sL aQ.2.1 b0.tracks,sL aQ.2.2.1 b0.between,sL aQ.2.2.2 b0.eX]) (k:=?_));refine iP (hK2 _ _ ?_);clear hK2;refine aW ?_;refine oe fI ?_;refine oe (av 0) ?_;refine oe (av 2) ?_;refine oe (aF (b:=gH)) ?_;refine oe bL ?_;refine oN hM fun hM=>?_;refine aT ?_;obtain rfl:=some_inj hM;refine aY (mD (fun w hm=>fU r3 hm rfl))
def JK(b0:dM)(a0:Int)(c0:Int)(Ht:Int)(Hu:Int):Option (List Link):=
 bq (decide ((b0.l.Links.length+([(Link.mk a0 1 c0 0 Ht Hu)]:List Link).length)*48≤140737488355328))<|
 some (b0.l.Links++([(Link.mk a0 1 c0 0 Ht Hu)]:List Link))
theorem aaR(S:bO)(w:World)(gH:Nat)(b0:dM)(aQ:aC.R dM)(a0:Int)(c0:Int)(Ht:Int)(Hu:Int)(y:(List Link))(hM:JK b0 a0 c0 Ht Hu=some y)(hP:Pre S [own gH 76 (qZ b0 aQ),aj 9 aQ.1.1 b0.l.aU,aj 9 aQ.1.2.1 b0.l.bG,aj 81 aQ.1.2.2.1 b0.l.Sections,aj 183 aQ.1.2.2.2 b0.l.Links,aj 39 aQ.2.1 b0.tracks,aj 39 aQ.2.2.1 b0.between,aj 39 aQ.2.2.2 b0.eX] w):
  Calls Tryz.prog 75 #[vP gH,vI a0,vI c0,vI Ht,vI Hu] w (Post (β:=(SR (aC.R Link))) S [own gH 76 (qZ b0 aQ),aj 9 aQ.1.1 b0.l.aU,aj 9 aQ.1.2.1 b0.l.bG,aj 81 aQ.1.2.2.1 b0.l.Sections,aj 183 aQ.1.2.2.2 b0.l.Links,aj 39 aQ.2.1 b0.tracks,aj 39 aQ.2.2.1 b0.between,aj 39 aQ.2.2.2 b0.eX] (fun g=> .tuple #[]) (fun g=>[own gH 76 [sL aQ.1.1 b0.l.aU,sL aQ.1.2.1 b0.l.bG,sL aQ.1.2.2.1 b0.l.Sections,sL g y,sL aQ.2.1 b0.tracks,sL aQ.2.2.1 b0.between,sL aQ.2.2.2 b0.eX],aj 9 aQ.1.1 b0.l.aU,aj 9 aQ.1.2.1 b0.l.bG,aj 81 aQ.1.2.2.1 b0.l.Sections,aj 183 g y,aj 39 aQ.2.1 b0.tracks,aj 39 aQ.2.2.1 b0.between,aj 39 aQ.2.2.2 b0.eX]) w):=by
 refine cu (args:=[_,_,_,_,_]) Tryz.func75 rfl (hP.start) rfl ?_;unfold JK at hM;refine bB ?_;refine om ?_;refine om ?_;refine oe fI ?_;refine oe (av 0) ?_;refine oe (av 3) ?_;refine oe (aF (b:=gH)) ?_;refine om ?_;refine om ?_;refine om ?_;refine om ?_;refine oe (gI [vI a0,vI 1,vI c0,vI 0,vI Ht,vI Hu]) ?_;refine bM (fD (α:=Link) 183 (fun _=>()) ([(Link.mk a0 1 c0 0 Ht Hu)]:List Link) oF (fun r1=>?_));obtain⟨hb3,hM⟩:=bW hM;refine bM (jc (r:=aQ.1.2.2.2) (r2:=r1) uR (Kn.aj (e:=183) (r:=r1) hA) oF (of_decide_eq_true hb3) (fun r2=>?_));refine oe fI ?_;refine oe (av 0) ?_;refine oe (av 3) ?_;refine bM (iD (b:=gH) (l':=[sL aQ.1.1 b0.l.aU,sL aQ.1.2.1 b0.l.bG,sL aQ.1.2.2.1 b0.l.Sections,.slice r2.a ((b0.l.Links++([(Link.mk a0 1 c0 0 Ht Hu)]:List Link)).length) r2.cap,sL aQ.2.1 b0.tracks,sL aQ.2.2.1 b0.between,sL aQ.2.2.2 b0.eX]) (k:=?_));obtain rfl:=some_inj hM;refine bC (JU rfl (fun w hm=>fU r2 hm rfl))
def Q7(b0:dM):Option (Int×(List Str)):=
 (Ct (⟨[80]⟩:Str) (b0.l.bG.length:Int)).bind fun y1=>
 bq (decide ((b0.l.bG.length+([y1]:List Str).length)*16≤140737488355328))<|
 bq (bJ (((b0.l.bG++([y1]:List Str)).length:Int)-1))<|
 some ((((b0.l.bG++([y1]:List Str)).length:Int)-1),(b0.l.bG++([y1]:List Str)))
theorem aoR(S:bO)(w:World)(gH:Nat)(b0:dM)(aQ:aC.R dM)(y:Int×(List Str))(hM:Q7 b0=some y)(hP:Pre S [own gH 76 (qZ b0 aQ),aj 9 aQ.1.1 b0.l.aU,aj 9 aQ.1.2.1 b0.l.bG,aj 81 aQ.1.2.2.1 b0.l.Sections,aj 183 aQ.1.2.2.2 b0.l.Links,aj 39 aQ.2.1 b0.tracks,aj 39 aQ.2.2.1 b0.between,aj 39 aQ.2.2.2 b0.eX] w):
  Calls Tryz.prog 133 #[vP gH] w (Post (β:=(SR (aC.R Str))) S [own gH 76 (qZ b0 aQ),aj 9 aQ.1.1 b0.l.aU,aj 9 aQ.1.2.1 b0.l.bG,aj 81 aQ.1.2.2.1 b0.l.Sections,aj 183 aQ.1.2.2.2 b0.l.Links,aj 39 aQ.2.1 b0.tracks,aj 39 aQ.2.2.1 b0.between,aj 39 aQ.2.2.2 b0.eX] (fun g=>vI y.1) (fun g=>[own gH 76 [sL aQ.1.1 b0.l.aU,sL g y.2,sL aQ.1.2.2.1 b0.l.Sections,sL aQ.1.2.2.2 b0.l.Links,sL aQ.2.1 b0.tracks,sL aQ.2.2.1 b0.between,sL aQ.2.2.2 b0.eX],aj 9 aQ.1.1 b0.l.aU,aj 9 g y.2,aj 81 aQ.1.2.2.1 b0.l.Sections,aj 183 aQ.1.2.2.2 b0.l.Links,aj 39 aQ.2.1 b0.tracks,aj 39 aQ.2.2.1 b0.between,aj 39 aQ.2.2.2 b0.eX]) w):=by
 refine cu (args:=[_]) Tryz.func133 rfl (hP.start) rfl ?_;unfold Q7 at hM;refine bI ?_;refine aK fun K2 hK2=>?_;refine iW [own gH 76 (qZ b0 aQ),aj 9 aQ.1.1 b0.l.aU,aj 81 aQ.1.2.2.1 b0.l.Sections,aj 183 aQ.1.2.2.2 b0.l.Links,aj 39 aQ.2.1 b0.tracks,aj 39 aQ.2.2.1 b0.between,aj 39 aQ.2.2.2 b0.eX] 18 ?_;refine aG 0 rfl aL ?_;refine aG 1 rfl aL ?_;refine aG 2 rfl fI ?_;refine aG 3 rfl (av 0) ?_;refine aG 4 rfl (av 1) ?_;refine aG 5 rfl (aF (b:=gH)) ?_;refine aG 6 rfl aL ?_;refine aG 7 rfl fI ?_;refine aG 8 rfl (av 0) ?_;refine aG 9 rfl (av 1) ?_;refine aG 10 rfl (aF (b:=gH)) ?_;refine dA 11 rfl (Aw bL ⟨rI,?_⟩);obtain⟨y1,hy2,hM⟩:=bind_some hM;refine dA 12 rfl (sV (fun hs=>JL _ _ (⟨[80]⟩:Str) (b0.l.bG.length:Int) y1 hy2 (bf hs)) ⟨rI,?_⟩);refine dA 13 rfl (fD (α:=Str) 9 (fun _=>()) ([y1]:List Str) oF (fun r3=>⟨rI,?_⟩))
 obtain⟨hb5,hM⟩:=bW hM;refine dA 14 rfl (jc (r:=aQ.1.2.1) (r2:=r3) uR (Kn.aj (e:=9) (r:=r3) hA) oF (of_decide_eq_true hb5) (fun r4=>⟨rI,?_⟩));refine aG 15 rfl fI ?_;refine aG 16 rfl (av 0) ?_;refine aG 17 rfl (av 1) ?_;refine iQ rfl (iD (b:=gH) (l':=[sL aQ.1.1 b0.l.aU,.slice r4.a ((b0.l.bG++([y1]:List Str)).length) r4.cap,sL aQ.1.2.2.1 b0.l.Sections,sL aQ.1.2.2.2 b0.l.Links,sL aQ.2.1 b0.tracks,sL aQ.2.2.1 b0.between,sL aQ.2.2.2 b0.eX]) (k:=?_));refine iP (hK2 _ _ ?_);clear hK2;refine aW ?_;refine oe fI ?_;refine oe (av 0) ?_;refine oe (av 1) ?_;refine oe (aF (b:=gH)) ?_;refine oe bL ?_;refine oN hM fun hM=>?_;refine aT ?_;obtain rfl:=some_inj hM;refine aY (mD (fun w hm=>fU r4 hm rfl))
def MI(bA:((List Link)×Nat)→Option ((List Str)×(List Link)))(uI:Nat):(List Link)→Option ((List Str)×(List Link)):=fun MP=>
 bA (MP,uI+1)
def Q5(nE:List Int)(zI:Bool)(b0:dM)(wR:List Str)(x0:Int)(BD:Int)(bA:((List Link)×Nat)→Option ((List Str)×(List Link))):((List Link)×Nat)→Option ((List Str)×(List Link)):=fun (Ee,uI)=>
 if decide ((uI:Int)<(nE.length:Int)) then
  (if zI then
   ((idx nE (uI:Int)).bind fun x4=>
   (JK (dM.mk (Layout.mk b0.l.aU wR b0.l.Sections Ee) b0.tracks b0.between b0.eX) x0 x4 BD (uI:Int)).bind fun y6=>
   MI bA uI y6)
  else
   ((idx nE (uI:Int)).bind fun x9=>
   (JK (dM.mk (Layout.mk b0.l.aU wR b0.l.Sections Ee) b0.tracks b0.between b0.eX) x9 x0 BD (uI:Int)).bind fun eU=>
   MI bA uI eU))
 else
  (some (wR,Ee))
def MH(nE:List Int)(zI:Bool)(b0:dM)(x0:Int):((List Str)×Int)→Option ((List Str)×(List Link)):=fun (wR,BD)=>
 iter (Q5 nE zI b0 wR x0 BD) FUEL (b0.l.Links,0)
def MJ(b0:dM)(x0:Int)(nE:List Int)(zI:Bool):Option ((List Str)×(List Link)):=
 if decide (1<(nE.length:Int)) then
  ((Q7 b0).bind fun oZ=>
  MH nE zI b0 x0 (oZ.2,oZ.1))
 else
  (MH nE zI b0 x0 (b0.l.bG,(-1)))
theorem afk(S:bO)(w:World)(gH:Nat)(b0:dM)(aQ:aC.R dM)(x0:Int)(nE:List Int)(ze:aC.R (List Int))(zI:Bool)(y:(List Str)×(List Link))(hM:MJ b0 x0 nE zI=some y)(hP:Pre S [own gH 76 (qZ b0 aQ),aj 9 aQ.1.1 b0.l.aU,aj 9 aQ.1.2.1 b0.l.bG,aj 81 aQ.1.2.2.1 b0.l.Sections,aj 183 aQ.1.2.2.2 b0.l.Links,aj 39 aQ.2.1 b0.tracks,aj 39 aQ.2.2.1 b0.between,aj 39 aQ.2.2.2 b0.eX] w)(ala:aC.ok S w ze nE):
   Calls Tryz.prog 76 #[vP gH,vI x0,sL ze nE,.bool zI] w (Post (β:=(SR (aC.R Str))×(SR (aC.R Link))) S [own gH 76 (qZ b0 aQ),aj 9 aQ.1.1 b0.l.aU,aj 9 aQ.1.2.1 b0.l.bG,aj 81 aQ.1.2.2.1 b0.l.Sections,aj 183 aQ.1.2.2.2 b0.l.Links,aj 39 aQ.2.1 b0.tracks,aj 39 aQ.2.2.1 b0.between,aj 39 aQ.2.2.2 b0.eX] (fun g=> .tuple #[]) (fun g=>[own gH 76 [sL aQ.1.1 b0.l.aU,sL g.1 y.1,sL aQ.1.2.2.1 b0.l.Sections,sL g.2 y.2,sL aQ.2.1 b0.tracks,sL aQ.2.2.1 b0.between,sL aQ.2.2.2 b0.eX],aj 9 aQ.1.1 b0.l.aU,aj 9 g.1 y.1,aj 81 aQ.1.2.2.1 b0.l.Sections,aj 183 g.2 y.2,aj 39 aQ.2.1 b0.tracks,aj 39 aQ.2.2.1 b0.between,aj 39 aQ.2.2.2 b0.eX]) w):=by
 refine cu (args:=[_,_,_,_]) Tryz.func76 rfl (hP.start |>.gW (α:=List Int) (r:=ze) (x:=nE) ala) rfl ?_;unfold MJ at hM;refine bI ?_;refine jn (SR (aC.R Str)) y (k:=MH nE zI b0 x0) (fun (wR,BD) CG=>[(0,eP gH),(1,eI x0),(2,eS ze nE),(3,.v (.bool zI)),(8,eI BD)]) (fun (wR,BD) CG=>[aj 9 aQ.1.1 b0.l.aU,aj 9 CG wR,aj 81 aQ.1.2.2.1 b0.l.Sections,aj 183 aQ.1.2.2.2 b0.l.Links,aj 39 aQ.2.1 b0.tracks,aj 39 aQ.2.2.1 b0.between,aj 39 aQ.2.2.2 b0.eX,own gH 76 [sL aQ.1.1 b0.l.aU,sL CG wR,sL aQ.1.2.2.1 b0.l.Sections,sL aQ.1.2.2.2 b0.l.Links,sL aQ.2.1 b0.tracks,sL aQ.2.2.1 b0.between,sL aQ.2.2.2 b0.eX],iL nE ze]) ?_ ?_
 ·intro zB fu;refine aW ?_;refine oe bL ?_;refine oe gM ?_;refine on ?_;refine cc rfl hM (fun vT hM=>?_) (fun vT hM=>?_)
  · refine bB ?_;refine om ?_;obtain⟨oZ,QM,hM⟩:=bind_some hM;refine bM (nT sA (fun S w hs hP=>aoR _ w gH b0 aQ oZ QM hP) (fun dJ=>?_));dsimp only[cA,nA];refine oa ?_;refine bC (fu dJ hM sS rI)
  refine aX (fu aQ.1.2.1 hM sS rI)
 clear hM;rintro⟨wR,BD⟩ CG hM;dsimp only[MH] at hM ⊢;refine aW ?_;refine mF (fun w hm=>Kn.len (kG nE ze) hm) fun hl1=>?_;refine oe bL ?_;refine om ?_;refine on ?_;refine bH ?_;refine lp aQ.1.2.2.2 hM (fun (Ee,uI) Ku=>[(0,eP gH),(1,eI x0),(2,eS ze nE),(3,.v (.bool zI)),(8,eI BD),(16,eI (nE.length:Int)),(17,eI (uI:Int))]) (fun (Ee,uI) Ku=>[aj 9 aQ.1.1 b0.l.aU,aj 9 CG wR,aj 81 aQ.1.2.2.1 b0.l.Sections,aj 183 Ku Ee,aj 39 aQ.2.1 b0.tracks,aj 39 aQ.2.2.1 b0.between,aj 39 aQ.2.2.2 b0.eX,own gH 76 [sL aQ.1.1 b0.l.aU,sL CG wR,sL aQ.1.2.2.1 b0.l.Sections,sL Ku Ee,sL aQ.2.1 b0.tracks,sL aQ.2.2.1 b0.between,sL aQ.2.2.2 b0.eX],iL nE ze]) sS rI ?_;clear hM;rintro bA ⟨Ee,uI⟩ Ku hM iG hL1;dsimp only[Q5] at hM ⊢
 refine sr ?_;refine oe bY ?_;refine on ?_;refine aK fun K4 hK4=>?_;refine cc rfl hM (fun hc2 hM=>?_) (fun hc2 hM=>?_)
 ·have Vu:=of_decide_eq_true hc2;refine aX (hK4 _ _ ?_);clear hK4;refine jn (SR (aC.R Link)) y (k:=MI bA uI) (fun MP Sc=>[(0,eP gH),(1,eI x0),(2,eS ze nE),(3,.v (.bool zI)),(8,eI BD),(16,eI (nE.length:Int)),(17,eI (uI:Int))]) (fun MP Sc=>[aj 9 aQ.1.1 b0.l.aU,aj 9 CG wR,aj 81 aQ.1.2.2.1 b0.l.Sections,aj 183 Sc MP,aj 39 aQ.2.1 b0.tracks,aj 39 aQ.2.2.1 b0.between,aj 39 aQ.2.2.2 b0.eX,own gH 76 [sL aQ.1.1 b0.l.aU,sL CG wR,sL aQ.1.2.2.1 b0.l.Sections,sL Sc MP,sL aQ.2.1 b0.tracks,sL aQ.2.2.1 b0.between,sL aQ.2.2.2 b0.eX],iL nE ze]) ?_ ?_
  · intro zC hJ2;refine bH ?_;refine aW ?_;refine aT ?_;refine aW ?_;refine on ?_;refine cc rfl hM (fun hc3 hM=>?_) (fun hc3 hM=>?_)
    ·refine bB ?_;refine om ?_;refine om ?_;refine om ?_;refine om ?_;obtain⟨x4,hx5,hM⟩:=bind_some hM;refine oe (bD (xs:=nE) 1 (kG nE ze) (iS hx5)) ?_;refine oe (bT (i:=(uI:Int)) (xs:=nE) (y:=x4) 0 (kG nE ze) (fun _=>hx5)) ?_;refine om ?_;refine om ?_;obtain⟨y6,qh,hM⟩:=bind_some hM;refine bM (nT sA (fun S w hs hP=>aaR _ w gH (dM.mk (Layout.mk b0.l.aU wR b0.l.Sections Ee) b0.tracks b0.between b0.eX) ((aQ.1.1,CG,aQ.1.2.2.1,Ku),aQ.2.1,aQ.2.2.1,aQ.2.2.2) x0 x4 BD (uI:Int) y6 qh hP) (fun r8=>?_));dsimp only[cA,nA];refine bC (hJ2 r8 hM sS rI)
    refine bB ?_;refine om ?_;refine om ?_;refine om ?_;obtain⟨x9,ni,hM⟩:=bind_some hM;refine oe (bD (xs:=nE) 1 (kG nE ze) (iS ni)) ?_;refine oe (bT (i:=(uI:Int)) (xs:=nE) (y:=x9) 0 (kG nE ze) (fun _=>ni)) ?_;refine om ?_;refine om ?_;refine om ?_;obtain⟨eU,vV,hM⟩:=bind_some hM;refine bM (nT sA (fun S w hs hP=>aaR _ w gH (dM.mk (Layout.mk b0.l.aU wR b0.l.Sections Ee) b0.tracks b0.between b0.eX) ((aQ.1.1,CG,aQ.1.2.2.1,Ku),aQ.2.1,aQ.2.2.1,aQ.2.2.2) x9 x0 BD (uI:Int) eU vV hP) (fun sO=>?_));dsimp only[cA,nA];refine bC (hJ2 sO hM sS rI)
  clear hM;rintro MP Sc hM;dsimp only[MI] at hM ⊢;refine bB ?_;refine oe (eH (hr:=fun _=>by unfold gF;omega)) ?_;refine om ?_;refine bC (hL1 Sc hM sS rI)
 obtain rfl:=some_inj hM;refine dK (JU rfl (fun w hm=>fU (CG,Ku) hm rfl))
def aaX(bg:Nat)(bA:(Int×(List Str)×(List Section)×(List (List Int))×Nat)→Option (dM×Int))(kP:Int)(iy:List Str)(eG:Str)(zV:List Section)(gJ:List (List Int))(xY:List Int):Unit→Option (dM×Int):=fun _=>
 bq (bJ ((bg:Int)+1))<|
 bA (kP,(iy++([eG]:List Str)),zV,(gJ++([xY]:List (List Int))),bg+1)
def aaY(gJ:List (List Int))(xY:List Int)(bg:Nat)(bA:(Int×(List Str)×(List Section)×(List (List Int))×Nat)→Option (dM×Int))(kP:Int)(iy:List Str)(eG:Str)(zV:List Section):Unit→Option (dM×Int):=fun _=>
 bq (decide ((gJ.length+([xY]:List (List Int)).length)*24≤140737488355328))<|
 aaX bg bA kP iy eG zV gJ xY ()
def JM(bg:Nat)(s0:bZ)(iy:List Str)(eG:Str)(gJ:List (List Int))(bA:(Int×(List Str)×(List Section)×(List (List Int))×Nat)→Option (dM×Int))(fE:(Int×(List Section)×(List Int)×Int)→Option (dM×Int)):(Int×(List Section)×(List Int)×Int)→Option (dM×Int):=fun (kP,zV,xY,eD)=>
 if decide (0<eD) then
  ((Ct (⟨[84]⟩:Str) (bg:Int)).bind fun y25=>
  (Ct y25 eD).bind fun y27=>
  (MF (bZ.mk s0.l kP) y27 (bg:Int)).bind fun y29=>
  bq (bJ (y29.1.Length+2))<|
  (MG (dM.mk (Layout.mk (iy++([eG]:List Str)) ([]:List Str) zV ([]:List Link)) gJ ([]:List (List Int)) ([]:List (List Int))) (Section.mk y29.1.Name (y29.1.Length+2) y29.1.Limit y29.1.jQ y29.1.nG)).bind fun y34=>
  bq (decide ((xY.length+([y34.1]:List Int).length)*8≤140737488355328))<|
  bq (bJ (eD-1))<|
  fE (y29.2,y34.2,(xY++([y34.1]:List Int)),(eD-1)))
 else
  (aaY gJ xY bg bA kP iy eG zV ())
def aa0(fO:Nat)(jX:(Int×(List Str)×(List Section)×(List Link)×(List (List Int))×Nat)→Option (dM×Int))(tN:Int)(y91:(List Str)×(List Link))(nJ:List Section)(kU:List (List Int))(kE:List Int):Unit→Option (dM×Int):=fun _=>
 bq (bJ ((fO:Int)+1))<|
 jX (tN,y91.1,nJ,y91.2,(kU++([kE]:List (List Int))),fO+1)
def MN(kE:List Int)(gJ:List (List Int))(fO:Nat)(iy:List Str)(nR:List Str)(nJ:List Section)(xW:List Link)(kU:List (List Int))(jX:(Int×(List Str)×(List Section)×(List Link)×(List (List Int))×Nat)→Option (dM×Int))(tN:Int):Unit→Option (dM×Int):=fun _=>
 (idx kE 0).bind fun tq=>
 (idx gJ (fO:Int)).bind fun x80=>
 (MJ (dM.mk (Layout.mk iy nR nJ xW) gJ kU ([]:List (List Int))) tq x80 false).bind fun zx=>
 bq (bJ ((kE.length:Int)-1))<|
 (idx kE ((kE.length:Int)-1)).bind fun x86=>
 bq (bJ ((fO:Int)+1))<|
 (idx gJ ((fO:Int)+1)).bind fun x89=>
 (MJ (dM.mk (Layout.mk iy zx.1 nJ zx.2) gJ kU ([]:List (List Int))) x86 x89 true).bind fun y91=>
 bq (decide ((kU.length+([kE]:List (List Int)).length)*24≤140737488355328))<|
 aa0 fO jX tN y91 nJ kU kE ()
def Ra(kE:List Int)(iy:List Str)(nR:List Str)(nJ:List Section)(gJ:List (List Int))(kU:List (List Int))(fO:Nat)(jX:(Int×(List Str)×(List Section)×(List Link)×(List (List Int))×Nat)→Option (dM×Int))(tN:Int)(BU:((List Link)×Nat)→Option (dM×Int)):((List Link)×Nat)→Option (dM×Int):=fun (xW,zT)=>
 bq (bJ ((zT:Int)+1))<|
 if decide (((zT:Int)+1)<(kE.length:Int)) then
  ((idx kE (zT:Int)).bind fun x69=>
  bq (bJ ((zT:Int)+1))<|
  (idx kE ((zT:Int)+1)).bind fun Yg=>
  (JK (dM.mk (Layout.mk iy nR nJ xW) gJ kU ([]:List (List Int))) x69 Yg (-1) 0).bind fun Pb=>
  bq (bJ ((zT:Int)+1))<|
  BU (Pb,zT+1))
 else
  (MN kE gJ fO iy nR nJ xW kU jX tN ())
def Rb(kE:List Int)(iy:List Str)(nR:List Str)(nJ:List Section)(gJ:List (List Int))(kU:List (List Int))(fO:Nat)(jX:(Int×(List Str)×(List Section)×(List Link)×(List (List Int))×Nat)→Option (dM×Int))(tN:Int)(vY:List Link):Unit→Option (dM×Int):=fun _=>
 iter (Ra kE iy nR nJ gJ kU fO jX tN) FUEL (vY,0)
def JN(fO:Nat)(s0:bZ)(iy:List Str)(nR:List Str)(vY:List Link)(gJ:List (List Int))(kU:List (List Int))(jX:(Int×(List Str)×(List Section)×(List Link)×(List (List Int))×Nat)→Option (dM×Int))(oH:(Int×(List Section)×(List Int)×Int)→Option (dM×Int)):(Int×(List Section)×(List Int)×Int)→Option (dM×Int):=fun (tN,nJ,kE,ny)=>
 if decide (0<ny) then
  ((Ct (⟨[76]⟩:Str) (fO:Int)).bind fun jJ=>
  (Ct jJ ny).bind fun su=>
  (MF (bZ.mk s0.l tN) su (-1)).bind fun UF=>
  (MG (dM.mk (Layout.mk iy nR nJ vY) gJ kU ([]:List (List Int))) UF.1).bind fun Gc=>
  bq (decide ((kE.length+([Gc.1]:List Int).length)*8≤140737488355328))<|
  bq (bJ (ny-1))<|
  oH (UF.2,Gc.2,(kE++([Gc.1]:List Int)),(ny-1)))
 else
  (Rb kE iy nR nJ gJ kU fO jX tN vY ())
def aaZ(iy:List Str)(nR:List Str)(FH:List Section)(vY:List Link)(gJ:List (List Int))(kU:List (List Int))(EU:Int):Unit→Option (dM×Int):=fun _=>
 some ((dM.mk (Layout.mk iy nR FH vY) gJ kU ([]:List (List Int))),EU)
def aaW(y2:Int×Int)(s0:bZ)(iy:List Str)(gJ:List (List Int))(jX:(Int×(List Str)×(List Section)×(List Link)×(List (List Int))×Nat)→Option (dM×Int)):(Int×(List Str)×(List Section)×(List Link)×(List (List Int))×Nat)→Option (dM×Int):=fun (EU,nR,FH,vY,kU,fO)=>
 bq (bJ ((fO:Int)+1))<|
 if decide (((fO:Int)+1)<(2+y2.1)) then
  ((kS (bZ.mk s0.l EU) 2).bind fun DK=>
  bq (bJ (1+DK.1))<|
  iter (JN fO s0 iy nR vY gJ kU jX) FUEL (DK.2,FH,([]:List Int),(1+DK.1)))
 else
  (aaZ iy nR FH vY gJ kU EU ())
def VU(y2:Int×Int)(s0:bZ)(iy:List Str)(gJ:List (List Int))(o7:Int)(Bl:List Section):Unit→Option (dM×Int):=fun _=>
 iter (aaW y2 s0 iy gJ) FUEL (o7,([]:List Str),Bl,([]:List Link),([]:List (List Int)),0)
def aaV(y2:Int×Int)(s0:bZ)(bA:(Int×(List Str)×(List Section)×(List (List Int))×Nat)→Option (dM×Int)):(Int×(List Str)×(List Section)×(List (List Int))×Nat)→Option (dM×Int):=fun (o7,iy,Bl,gJ,bg)=>
 if decide ((bg:Int)<(2+y2.1)) then
  ((Ct (⟨[83]⟩:Str) (bg:Int)).bind fun eG=>
  bq (decide ((iy.length+([eG]:List Str).length)*16≤140737488355328))<|
  (kS (bZ.mk s0.l o7) 2).bind fun yB=>
  bq (bJ (1+yB.1))<|
  iter (JM bg s0 iy eG gJ bA) FUEL (yB.2,Bl,([]:List Int),(1+yB.1)))
 else
  (VU y2 s0 iy gJ o7 Bl ())
def Rc(s0:bZ):Option (dM×Int):=
 (kS s0 2).bind fun y2=>
 bq (bJ (2+y2.1))<|
 iter (aaV y2 s0) FUEL (y2.2,([]:List Str),([]:List Section),([]:List (List Int)),0)
theorem aoT(S:bO)(w:World)(fC:Nat)(s0:bZ)(bX:aC.R bZ)(y:dM×Int)(hM:Rc s0=some y)(hP:Pre S [own fC 136 (Cy s0 bX)] w)(Fg:aC.ok (α:=List Int) S w bX s0.l):
   Calls Tryz.prog 26 #[vP fC] w (Post (β:=Nat×(aC.R (List Str))×(aC.R (List Str))×(aC.R (List Section))×(aC.R (List Link))×(aC.R (List (List Int)))×(aC.R (List (List Int)))×(aC.R (List (List Int)))) S [own fC 136 (Cy s0 bX)] (fun g=>vP g.1) (fun g=>[own g.1 76 [sL g.2.1 y.1.l.aU,sL g.2.2.1 y.1.l.bG,sL g.2.2.2.1 y.1.l.Sections,sL g.2.2.2.2.1 y.1.l.Links,sL g.2.2.2.2.2.1 y.1.tracks,sL g.2.2.2.2.2.2.1 y.1.between,sL g.2.2.2.2.2.2.2 y.1.eX],aj 9 g.2.1 y.1.l.aU,aj 9 g.2.2.1 y.1.l.bG,aj 81 g.2.2.2.1 y.1.l.Sections,aj 183 g.2.2.2.2.1 y.1.l.Links,aj 39 g.2.2.2.2.2.1 y.1.tracks,aj 39 g.2.2.2.2.2.2.1 y.1.between,aj 39 g.2.2.2.2.2.2.2 y.1.eX,own fC 136 [sL bX s0.l,vI y.2]]) w):=by
 refine cu (args:=[_]) Tryz.func26 rfl (hP.start |>.gW (α:=List Int) (r:=bX) (x:=s0.l) Fg) rfl ?_;unfold Rc at hM;refine bI ?_;refine sr ?_;refine oe (gI [z0,z0,z0,z0,z0,z0,z0]) ?_;refine oB [z0,z0,z0,z0,z0,z0,z0] fun b1=>?_;refine aT ?_;refine aW ?_;obtain⟨y2,hy3,hM⟩:=bind_some hM;refine bM (fJ sA (fun S w hs hP=>je _ w fC s0 bX 2 y2 hy3 hP (kM hs)) gq (fun r4=>?_));dsimp only[cA,nA];refine oP hM fun hM=>?_;refine aT ?_;refine aK fun K4 hK4=>?_;refine bI ?_;refine bH ?_;refine cZ (fun w hm=>hm.dR (α:=Str) 9 (fun _=>())) ?_;refine cZ (fun w hm=>hm.dR (α:=Str) 9 (fun _=>())) ?_;refine cZ (fun w hm=>hm.dR (α:=Section) 81 (fun _=>())) ?_;refine cZ (fun w hm=>hm.dR (α:=Link) 183 (fun _=>())) ?_
 refine cZ (fun w hm=>hm.dR (α:=List Int) 39 (fun _=>Bw)) ?_;refine cZ (fun w hm=>hm.dR (α:=List Int) 39 (fun _=>Bw)) ?_;refine cZ (fun w hm=>hm.dR (α:=List Int) 39 (fun _=>Bw)) ?_;refine lp (jT,u7,iI) hM (fun (o7,iy,Bl,gJ,bg) (qH,FM,kF)=>[(0,eP fC),(3,eP b1),(4,eI (2+y2.1)),(5,eI (bg:Int))]) (fun (o7,iy,Bl,gJ,bg) (qH,FM,kF)=>[iL s0.l bX,own fC 136 [sL bX s0.l,vI o7],aj 9 qH iy,aj 9 jT ([]:List Str),aj 81 FM Bl,aj 183 rJ ([]:List Link),aj 39 kF gJ,aj 39 iI ([]:List (List Int)),aj 39 iI ([]:List (List Int)),own b1 76 [sL qH iy,z0,sL FM Bl,z0,sL kF gJ,.slice iI.a (([]:List (List Int)).length) iI.cap,.slice iI.a (([]:List (List Int)).length) iI.cap]]) sS rI ?_
 clear hM;rintro bA ⟨o7,iy,Bl,gJ,bg⟩ ⟨qH,FM,kF⟩ hM iG hL1;dsimp only[aaV] at hM ⊢;refine aK fun K6 dn=>?_;refine aW ?_;refine om ?_;refine oe bY ?_;refine on ?_;refine cc rfl hM (fun zM hM=>?_) (fun zM hM=>?_)
 ·refine aX (dn _ _ ?_);clear dn;refine aK fun K8 gV=>?_;refine bH ?_;refine aK fun K9 gB=>?_;refine iW [iL s0.l bX,own fC 136 [sL bX s0.l,vI o7],aj 9 jT ([]:List Str),aj 81 FM Bl,aj 183 rJ ([]:List Link),aj 39 kF gJ,aj 39 iI ([]:List (List Int)),aj 39 iI ([]:List (List Int)),own b1 76 [sL qH iy,z0,sL FM Bl,z0,sL kF gJ,.slice iI.a (([]:List (List Int)).length) iI.cap,.slice iI.a (([]:List (List Int)).length) iI.cap]] 13 ?_
  refine aG 0 rfl aL ?_;refine aG 1 rfl aL ?_;refine aG 2 rfl fI ?_;refine aG 3 rfl (av 0) ?_;refine aG 4 rfl (av 0) ?_;refine aG 5 rfl (aF (b:=b1)) ?_;refine aG 6 rfl aL ?_;obtain⟨eG,uf,hM⟩:=bind_some hM;refine dA 7 rfl (sV (fun hs=>JL _ _ (⟨[83]⟩:Str) (bg:Int) eG uf (bf hs)) ⟨rI,?_⟩);refine dA 8 rfl (fD (α:=Str) 9 (fun _=>()) ([eG]:List Str) oF (fun r16=>⟨rI,?_⟩));obtain⟨Jv,hM⟩:=bW hM;refine dA 9 rfl (jc (r:=qH) (r2:=r16) uR (Kn.aj (e:=9) (r:=r16) hA) oF (of_decide_eq_true Jv) (fun dJ=>⟨rI,?_⟩));refine aG 10 rfl fI ?_;refine aG 11 rfl (av 0) ?_;refine aG 12 rfl (av 0) ?_;refine iQ rfl (iD (b:=b1) (l':=[.slice dJ.a ((iy++([eG]:List Str)).length) dJ.cap,z0,sL FM Bl,z0,sL kF gJ,.slice iI.a (([]:List (List Int)).length) iI.cap,.slice iI.a (([]:List (List Int)).length) iI.cap]) (k:=?_))
  refine iP (gB _ _ ?_);clear gB;refine bI ?_;refine aK fun rQ gG=>?_;refine aW ?_;obtain⟨yB,QO,hM⟩:=bind_some hM;refine bM (fJ sA (fun S w hs hP=>je _ w fC (bZ.mk s0.l o7) bX 2 yB QO hP (kM hs)) gq (fun Aj=>?_));dsimp only[cA,nA];refine oP hM fun hM=>?_;refine aT ?_;refine bH ?_;refine cZ (fun w hm=>hm.dR (α:=Int) 3 (fun _=>())) ?_;refine lp (FM,Bw) hM (fun (kP,zV,xY,eD) (Kt,KI)=>[(0,eP fC),(3,eP b1),(4,eI (2+y2.1)),(5,eI (bg:Int)),(6,eS KI xY),(7,eI eD)]) (fun (kP,zV,xY,eD) (Kt,KI)=>[iL s0.l bX,own fC 136 [sL bX s0.l,vI kP],aj 9 dJ (iy++([eG]:List Str)),aj 9 jT ([]:List Str),aj 81 Kt zV,aj 183 rJ ([]:List Link),aj 39 kF gJ,aj 39 iI ([]:List (List Int)),aj 39 iI ([]:List (List Int)),own b1 76 [.slice dJ.a ((iy++([eG]:List Str)).length) dJ.cap,z0,sL Kt zV,z0,sL kF gJ,.slice iI.a (([]:List (List Int)).length) iI.cap,.slice iI.a (([]:List (List Int)).length) iI.cap],aj 3 KI xY]) sS rI ?_
  clear hM;rintro fE ⟨kP,zV,xY,eD⟩ ⟨Kt,KI⟩ hM wH hL2;dsimp only[JM] at hM ⊢;refine aK fun yD jO=>?_;refine aW ?_;refine oe gM ?_;refine on ?_;refine cc rfl hM (fun hc24 hM=>?_) (fun hc24 hM=>?_)
  · refine aX (jO _ _ ?_);clear jO;refine aK fun zA jZ=>?_;refine bH ?_;refine aW ?_;refine om ?_;obtain⟨y25,Fx,hM⟩:=bind_some hM;refine cv (fun hs=>JL _ _ (⟨[84]⟩:Str) (bg:Int) y25 Fx (bf hs)) ?_;refine om ?_;obtain⟨y27,hy28,hM⟩:=bind_some hM;refine cv (fun hs=>JL _ _ y25 eD y27 hy28 (bf hs)) ?_;refine om ?_;obtain⟨y29,QT,hM⟩:=bind_some hM;refine bM (fJ sA (fun S w hs hP=>afi _ w fC (bZ.mk s0.l kP) bX y27 (bg:Int) y29 QT hP (kM hs)) gq (fun bK=>?_));dsimp only[cA,nA];refine oA rfl fun b32=>?_;refine oS b32 (Ae y29.1) ?_;refine on ?_;refine sr ?_;refine oe (av 1) ?_;refine oe (aF (b:=b32)) ?_;refine oP hM fun hM=>?_;refine oe (av 1) ?_;refine bM (iD (b:=b32) (l':=[.string y29.1.Name.ba,vI (y29.1.Length+2),vI y29.1.Limit,vI y29.1.jQ,vI y29.1.nG]) (k:=?_))
    refine on ?_;refine bB ?_;refine om ?_;refine om ?_;refine oe (bR (b:=b32)) ?_;obtain⟨y34,D9,hM⟩:=bind_some hM;refine bM (nT sA (fun S w hs hP=>afj _ w b1 (dM.mk (Layout.mk (iy++([eG]:List Str)) ([]:List Str) zV ([]:List Link)) gJ ([]:List (List Int)) ([]:List (List Int))) ((dJ,jT,Kt,rJ),kF,iI,iI) (Section.mk y29.1.Name (y29.1.Length+2) y29.1.Limit y29.1.jQ y29.1.nG) y34 D9 hP) (fun Kl=>?_));dsimp only[cA,nA];refine bM (fD (α:=Int) 3 (fun _=>()) ([y34.1]:List Int) oF (fun Hz=>?_));obtain⟨alu,hM⟩:=bW hM;refine bM (jc (r:=KI) (r2:=Hz) uR (Kn.aj (e:=3) (r:=Hz) hA) oF (of_decide_eq_true alu) (fun Km=>?_));refine oa ?_;refine bC (jZ _ _ ?_);clear jZ;refine bB ?_;refine om ?_;refine oN hM fun hM=>?_;refine oa ?_;refine bC (hL2 (Kl,Km) hM sS rI)
  refine dK (gG _ _ ?_);clear gG;dsimp only[aaY] at hM;refine bB ?_;refine om ?_;refine om ?_;refine oe fI ?_;refine oe (av 4) ?_;refine oe (aF (b:=b1)) ?_;refine om ?_;refine mU (fun w hm=>hm.freeze (r:=KI) uA) ?_;refine bM (fD (α:=List Int) 39 (fun _=>KI) ([xY]:List (List Int)) (mg.cons (fun S w hs=>(kI hs)) mg.nil) (fun r41=>?_));obtain⟨Zz,hM⟩:=bW hM;refine bM (jc (r:=kF) (r2:=r41) uR (Kn.aj (e:=39) (r:=r41) hA) (mg.row (e:=39) (r:=r41) hA) (of_decide_eq_true Zz) (fun Kq=>?_));refine oe fI ?_;refine oe (av 4) ?_;refine bM (iD (b:=b1) (l':=[.slice dJ.a ((iy++([eG]:List Str)).length) dJ.cap,z0,sL Kt zV,z0,.slice Kq.a ((gJ++([xY]:List (List Int))).length) Kq.cap,.slice iI.a (([]:List (List Int)).length) iI.cap,.slice iI.a (([]:List (List Int)).length) iI.cap]) (k:=?_))
  refine bC (gV _ _ ?_);clear gV;dsimp only[aaX] at hM;refine bB ?_;refine om ?_;refine oP hM fun hM=>?_;refine oa ?_;refine bC (hL1 (dJ,Kt,Kq) hM sS rI)
 refine dK (hK4 _ _ ?_);clear hK4;dsimp only[VU] at hM;refine aK fun Gg pO=>?_;refine bI ?_;refine bH ?_;refine lp (jT,FM,rJ,iI) hM (fun (EU,nR,FH,vY,kU,fO) (xg,NG,FN,sP)=>[(0,eP fC),(3,eP b1),(4,eI (2+y2.1)),(9,eI (fO:Int))]) (fun (EU,nR,FH,vY,kU,fO) (xg,NG,FN,sP)=>[iL s0.l bX,own fC 136 [sL bX s0.l,vI EU],aj 9 qH iy,aj 9 xg nR,aj 81 NG FH,aj 183 FN vY,aj 39 kF gJ,aj 39 sP kU,aj 39 iI ([]:List (List Int)),own b1 76 [sL qH iy,sL xg nR,sL NG FH,sL FN vY,sL kF gJ,sL sP kU,.slice iI.a (([]:List (List Int)).length) iI.cap]]) sS rI ?_
 clear hM;rintro jX ⟨EU,nR,FH,vY,kU,fO⟩ ⟨xg,NG,FN,sP⟩ hM Gi hL3;dsimp only[aaW] at hM ⊢;refine aK fun I9 qR=>?_;refine aW ?_;refine oP hM fun hM=>?_;refine om ?_;refine oe bY ?_;refine on ?_;refine cc rfl hM (fun ZH hM=>?_) (fun ZH hM=>?_)
 ·refine aX (qR _ _ ?_);clear qR;refine aK fun Ja qU=>?_;refine bH ?_;refine bI ?_;refine aK fun UG yM=>?_;refine aW ?_;obtain⟨DK,aau,hM⟩:=bind_some hM;refine bM (fJ sA (fun S w hs hP=>je _ w fC (bZ.mk s0.l EU) bX 2 DK aau hP (kM hs)) gq (fun r49=>?_));dsimp only[cA,nA];refine oP hM fun hM=>?_;refine aT ?_;refine bH ?_;refine cZ (fun w hm=>hm.dR (α:=Int) 3 (fun _=>())) ?_;refine lp (NG,Bw) hM (fun (tN,nJ,kE,ny) (vo,sQ)=>[(0,eP fC),(3,eP b1),(4,eI (2+y2.1)),(9,eI (fO:Int)),(10,eS sQ kE),(11,eI ny)]) (fun (tN,nJ,kE,ny) (vo,sQ)=>[iL s0.l bX,own fC 136 [sL bX s0.l,vI tN],aj 9 qH iy,aj 9 xg nR,aj 81 vo nJ,aj 183 FN vY,aj 39 kF gJ,aj 39 sP kU,aj 39 iI ([]:List (List Int)),own b1 76 [sL qH iy,sL xg nR,sL vo nJ,sL FN vY,sL kF gJ,sL sP kU,.slice iI.a (([]:List (List Int)).length) iI.cap],aj 3 sQ kE]) sS rI ?_
  clear hM;rintro oH ⟨tN,nJ,kE,ny⟩ ⟨vo,sQ⟩ hM Pm hL4;dsimp only[JN] at hM ⊢;refine aK fun LB sJ=>?_;refine aW ?_;refine oe gM ?_;refine on ?_;refine cc rfl hM (fun ZJ hM=>?_) (fun ZJ hM=>?_)
  · refine aX (sJ _ _ ?_);clear sJ;refine aK fun Yn Ce=>?_;refine bH ?_;refine bB ?_;refine om ?_;refine om ?_;refine om ?_;refine om ?_;obtain⟨jJ,Ea,hM⟩:=bind_some hM;refine cv (fun hs=>JL _ _ (⟨[76]⟩:Str) (fO:Int) jJ Ea (bf hs)) ?_;refine om ?_;obtain⟨su,VG,hM⟩:=bind_some hM;refine cv (fun hs=>JL _ _ jJ ny su VG (bf hs)) ?_;obtain⟨UF,aoc,hM⟩:=bind_some hM;refine bM (fJ sA (fun S w hs hP=>afi _ w fC (bZ.mk s0.l tN) bX su (-1) UF aoc hP (kM hs)) gq (fun NA=>?_));dsimp only[cA,nA];obtain⟨Gc,aav,hM⟩:=bind_some hM;refine bM (nT sA (fun S w hs hP=>afj _ w b1 (dM.mk (Layout.mk iy nR nJ vY) gJ kU ([]:List (List Int))) ((qH,xg,vo,FN),kF,sP,iI) UF.1 Gc aav hP) (fun r62=>?_));dsimp only[cA,nA];refine bM (fD (α:=Int) 3 (fun _=>()) ([Gc.1]:List Int) oF (fun r63=>?_));obtain⟨alC,hM⟩:=bW hM;refine bM (jc (r:=sQ) (r2:=r63) uR (Kn.aj (e:=3) (r:=r63) hA) oF (of_decide_eq_true alC) (fun r64=>?_));refine oa ?_
    refine bC (Ce _ _ ?_);clear Ce;refine bB ?_;refine om ?_;refine oN hM fun hM=>?_;refine oa ?_;refine bC (hL4 (r62,r64) hM sS rI)
  refine dK (yM _ _ ?_);clear yM;dsimp only[Rb] at hM;refine aK fun LC sK=>?_;refine bI ?_;refine bH ?_;refine lp FN hM (fun (xW,zT) Eu=>[(0,eP fC),(3,eP b1),(4,eI (2+y2.1)),(9,eI (fO:Int)),(10,eS sQ kE),(12,eI (zT:Int))]) (fun (xW,zT) Eu=>[iL s0.l bX,own fC 136 [sL bX s0.l,vI tN],aj 9 qH iy,aj 9 xg nR,aj 81 vo nJ,aj 183 Eu xW,aj 39 kF gJ,aj 39 sP kU,aj 39 iI ([]:List (List Int)),own b1 76 [sL qH iy,sL xg nR,sL vo nJ,sL Eu xW,sL kF gJ,sL sP kU,.slice iI.a (([]:List (List Int)).length) iI.cap],aj 3 sQ kE]) sS rI ?_
  clear hM;rintro BU ⟨xW,zT⟩ Eu hM Yr hL5;dsimp only[Ra] at hM ⊢;refine aK fun UK yP=>?_;refine aW ?_;refine oP hM fun hM=>?_;refine om ?_;refine oe bL ?_;refine oe bY ?_;refine on ?_;refine cc rfl hM (fun alZ hM=>?_) (fun alZ hM=>?_)
  · refine aX (yP _ _ ?_);clear yP;refine aK fun UL wN=>?_;refine bH ?_;refine iW [iL s0.l bX,own fC 136 [sL bX s0.l,vI tN],aj 9 qH iy,aj 9 xg nR,aj 81 vo nJ,aj 183 Eu xW,aj 39 kF gJ,aj 39 sP kU,aj 39 iI ([]:List (List Int)),own b1 76 [sL qH iy,sL xg nR,sL vo nJ,sL Eu xW,sL kF gJ,sL sP kU,.slice iI.a (([]:List (List Int)).length) iI.cap],aj 3 sQ kE] 10 ?_;refine aG 0 rfl aL ?_;refine aG 1 rfl aL ?_;refine aG 2 rfl aL ?_;obtain⟨x69,ae4,hM⟩:=bind_some hM;refine aG 3 rfl (bD (xs:=kE) 1 (Kn.aj (e:=3) (r:=sQ) hA) (iS ae4)) ?_;refine aG 4 rfl (bT (i:=(zT:Int)) (xs:=kE) (y:=x69) 0 (Kn.aj (e:=3) (r:=sQ) hA) (fun _=>ae4)) ?_;refine aG 5 rfl aL ?_;refine aG 6 rfl aL ?_;obtain⟨akZ,hM⟩:=bW hM;refine aG 7 rfl (eH (hr:=fun hg=>dY akZ)) ?_
    obtain⟨Yg,ae5,hM⟩:=bind_some hM;refine aG 8 rfl (bD (xs:=kE) 1 (Kn.aj (e:=3) (r:=sQ) hA) (iS ae5)) ?_;refine aG 9 rfl (bT (i:=((zT:Int)+1)) (xs:=kE) (y:=Yg) 0 (Kn.aj (e:=3) (r:=sQ) hA) (fun _=>ae5)) ?_;obtain⟨Pb,aaz,hM⟩:=bind_some hM;refine iQ rfl (nT sA (fun S w hs hP=>aaR _ w b1 (dM.mk (Layout.mk iy nR nJ xW) gJ kU ([]:List (List Int))) ((qH,xg,vo,Eu),kF,sP,iI) x69 Yg (-1) 0 Pb aaz hP) (fun r76=>?_));dsimp only[cA,nA];refine iP (wN _ _ ?_);clear wN;refine bB ?_;refine om ?_;refine oP hM fun hM=>?_;refine oa ?_;refine bC (hL5 r76 hM sS rI)
  refine dK (sK _ _ ?_);clear sK;dsimp only[MN] at hM;refine aK fun Yo Cg=>?_;refine iW [iL s0.l bX,own fC 136 [sL bX s0.l,vI tN],aj 9 qH iy,aj 9 xg nR,aj 81 vo nJ,aj 183 Eu xW,aj 39 kF gJ,aj 39 sP kU,aj 39 iI ([]:List (List Int)),own b1 76 [sL qH iy,sL xg nR,sL vo nJ,sL Eu xW,sL kF gJ,sL sP kU,.slice iI.a (([]:List (List Int)).length) iI.cap],aj 3 sQ kE] 11 ?_;refine aG 0 rfl aL ?_;refine aG 1 rfl aL ?_;obtain⟨tq,Co,hM⟩:=bind_some hM;refine aG 2 rfl (bD (xs:=kE) 1 (Kn.aj (e:=3) (r:=sQ) hA) (iS Co)) ?_;refine aG 3 rfl (bT (i:=0) (xs:=kE) (y:=tq) 0 (Kn.aj (e:=3) (r:=sQ) hA) (fun _=>Co)) ?_;refine aG 4 rfl aL ?_;refine aG 5 rfl fI ?_;refine aG 6 rfl (av 4) ?_;refine aG 7 rfl (aF (b:=b1)) ?_;refine aG 8 rfl aL ?_
  obtain⟨x80,Mv,hM⟩:=bind_some hM;refine aG 9 rfl (bD (xs:=gJ) 1 (Kn.aj (e:=39) (r:=kF) hA) (iS Mv)) ?_;refine aG 10 rfl (bT (i:=(fO:Int)) (xs:=gJ) (y:=x80) 0 (Kn.aj (e:=39) (r:=kF) hA) (fun _=>Mv)) ?_;refine jr (fun w hm=>hm.xV (α:=List Int) (r:=(kF.es (fO:Int).toNat)) (x:=x80) (fun S hs=>(Sk.row (e:=39) (r:=kF) hA Mv) S w hs)) ?_;obtain⟨zx,aaB,hM⟩:=bind_some hM;refine iQ rfl (nT sA (fun S w hs hP=>afk _ w b1 (dM.mk (Layout.mk iy nR nJ xW) gJ kU ([]:List (List Int))) ((qH,xg,vo,Eu),kF,sP,iI) tq x80 (kF.es (fO:Int).toNat) false zx aaB hP (kI hs)) (fun NC=>?_));dsimp only[cA,nA];refine iP (Cg _ _ ?_);clear Cg;refine aK fun Yp Ch=>?_;refine iW [own b1 76 [sL qH iy,sL NC.1 zx.1,sL vo nJ,sL NC.2 zx.2,sL kF gJ,sL sP kU,.slice iI.a (([]:List (List Int)).length) iI.cap],aj 9 qH iy,aj 9 NC.1 zx.1,aj 81 vo nJ,aj 183 NC.2 zx.2,aj 39 kF gJ,aj 39 sP kU,aj 39 iI ([]:List (List Int)),iL x80 (kF.es (fO:Int).toNat),iL s0.l bX,own fC 136 [sL bX s0.l,vI tN],aj 3 sQ kE] 15 ?_
  refine aG 0 rfl aL ?_;refine aG 1 rfl aL ?_;refine aG 2 rfl aL ?_;refine aG 3 rfl bL ?_;obtain⟨ak2,hM⟩:=bW hM;refine aG 4 rfl (ng (hr:=fun hg=>dY ak2)) ?_;obtain⟨x86,aao,hM⟩:=bind_some hM;refine aG 5 rfl (bD (xs:=kE) 1 (Kn.aj (e:=3) (r:=sQ) hA) (iS aao)) ?_;refine aG 6 rfl (bT (i:=((kE.length:Int)-1)) (xs:=kE) (y:=x86) 0 (Kn.aj (e:=3) (r:=sQ) hA) (fun _=>aao)) ?_;refine aG 7 rfl aL ?_;refine aG 8 rfl fI ?_;refine aG 9 rfl (av 4) ?_;refine aG 10 rfl (aF (b:=b1)) ?_;refine aG 11 rfl aL ?_;obtain⟨ak3,hM⟩:=bW hM;refine aG 12 rfl (eH (hr:=fun hg=>dY ak3)) ?_;obtain⟨x89,hx90,hM⟩:=bind_some hM;refine aG 13 rfl (bD (xs:=gJ) 1 (Kn.aj (e:=39) (r:=kF) hA) (iS hx90)) ?_;refine aG 14 rfl (bT (i:=((fO:Int)+1)) (xs:=gJ) (y:=x89) 0 (Kn.aj (e:=39) (r:=kF) hA) (fun _=>hx90)) ?_;refine jr (fun w hm=>hm.xV (α:=List Int) (r:=(kF.es ((fO:Int)+1).toNat)) (x:=x89) (fun S hs=>(Sk.row (e:=39) (r:=kF) hA hx90) S w hs)) ?_;obtain⟨y91,aon,hM⟩:=bind_some hM;refine iQ rfl (nT sA (fun S w hs hP=>afk _ w b1 (dM.mk (Layout.mk iy zx.1 nJ zx.2) gJ kU ([]:List (List Int))) ((qH,NC.1,vo,NC.2),kF,sP,iI) x86 x89 (kF.es ((fO:Int)+1).toNat) true y91 aon hP (kI hs)) (fun Ws=>?_))
  dsimp only[cA,nA];refine iP (Ch _ _ ?_);clear Ch;refine bB ?_;refine om ?_;refine om ?_;refine oe fI ?_;refine oe (av 5) ?_;refine oe (aF (b:=b1)) ?_;refine om ?_;refine mU (fun w hm=>hm.freeze (r:=sQ) uA) ?_;refine bM (fD (α:=List Int) 39 (fun _=>sQ) ([kE]:List (List Int)) (mg.cons (fun S w hs=>(kI hs)) mg.nil) (fun Wt=>?_));obtain⟨alF,hM⟩:=bW hM;refine bM (jc (r:=sP) (r2:=Wt) uR (Kn.aj (e:=39) (r:=Wt) hA) (mg.row (e:=39) (r:=Wt) hA) (of_decide_eq_true alF) (fun ND=>?_));refine oe fI ?_;refine oe (av 5) ?_;refine bM (iD (b:=b1) (l':=[sL qH iy,sL Ws.1 y91.1,sL vo nJ,sL Ws.2 y91.2,sL kF gJ,.slice ND.a ((kU++([kE]:List (List Int))).length) ND.cap,.slice iI.a (([]:List (List Int)).length) iI.cap]) (k:=?_));refine bC (qU _ _ ?_);clear qU;dsimp only[aa0] at hM;refine bB ?_;refine om ?_;refine oP hM fun hM=>?_
  refine oa ?_;refine bC (hL3 (Ws.1,vo,Ws.2,ND) hM sS rI)
 refine dK (pO _ _ ?_);clear pO;dsimp only[aaZ] at hM;refine aW ?_;refine aT ?_;obtain rfl:=some_inj hM;refine aY (mD (fun w hm=>fU (b1,qH,xg,NG,FN,kF,sP,iI) hm rfl))
end Go.Proofs.YtcalibhfgdncaaaGreatDoor
